/- Find returns the crossings of the segments of a pipe that are not Never, and First the first one, or the specified errors. -/
import Derived.Test.YtgdahmmlddfimaaGreatDoorM05
set_option linter.unusedSimpArgs false
set_option linter.unusedVariables false
set_option linter.defProp false
set_option maxHeartbeats 4000000
open Go.Proofs.Tryz
namespace Go.Proofs.YtgdahmmlddfimaaGreatDoor
open Go.RowKit Fp Pu
structure q7 where
 sP:Int
 kind:Int
 dir:Int
 w:Iv
 l:List Iv
def jU:q7:=⟨0,0,0,pA,[]⟩
def oM(c:q7):List E:=[iP c.sP,iP c.kind,iP c.dir]++iN c.w++[iu c.l]
def mD(l:List q7)(i j:Nat):E:=(oM (l.getD i jU)).getD j .any
def sD(l:List q7):E:=.sl true l.length 11 (mD l)
noncomputable def IK(s:jN)(t:ki)(x:List Iv)(a b:Dy)(y z:List Iv)(dir:Int)(p:Nat):Option q7:=
 if nT s t x y z dir p=3 then(match yR s t x a b y p with
  |none=>none
  |some q=>some ⟨0,3,dir,q.1,q.2⟩)
 else some ⟨0,nT s t x y z dir p,0,pA,[]⟩
def FO:Option q7->E
 |none=>.iE [.agg (oM jU),iP 14]
 |some c=>.iE [.agg (oM c),iP 0]
noncomputable def qM(s:jN)(t:ki)(x:List RI)(l:List kN)(dir:Int)(p:Nat)(i:Nat):Option q7:=
 IK s t ((kK x l i).map RI.iv) (l.getD i iq).a.dy (l.getD i iq).b.dy ((l.getD i iq).y.map RI.iv) ((l.getD i iq).z.map RI.iv) dir p
noncomputable def jr(s:jN)(t:ki)(x:List RI)(l:List kN)(dir:Int)(p:Nat):Nat->List q7
 | 0=>[]
 |i+1=>match qM s t x l dir p i with
  |none=>jr s t x l dir p i
  |some c=>if c.kind=1 then jr s t x l dir p i else jr s t x l dir p i++[⟨(i:Int),c.kind,c.dir,c.w,c.l⟩]
noncomputable def T4(s:jN)(t:ki)(x:List RI)(l:List kN)(dir:Int)(p:Nat)(i:Nat):PS:=⟨77,true,[(12,.own 12),(46,.e (iP i)),(45,.e (iP l.length)),(44,.e (jR l)),(13,.e (iD (kK x l i))),(6,.box 6 0),(5,.box 5 0),(3,.e (iP dir)),(4,.e (iP p))],[(12,.row true 41 ((jr s t x l dir p i).length) 11 (mD (jr s t x l dir p i))),(6,.cells 25 [iP t.iw,mG t.ig,mF t.iC]),(5,.cells 28 [iP s.tape.iw,mG s.tape.ig,mF s.tape.iC,iP s.iG,iu s.params])]⟩
noncomputable def T3(s:jN)(t:ki)(x:List RI)(l:List kN)(dir:Int)(p:Nat)(N:Nat)(i:Nat):PS:=⟨77,true,[(12,.own 12),(46,.e (iP i)),(45,.e (iP l.length)),(44,.e (jR l)),(13,.e (iD (kK x l i))),(6,.box 6 0),(5,.box 5 0),(3,.e (iP dir)),(4,.e (iP p))],[(12,.row true 41 ((jr s t x l dir p i).length) 11 (mD (jr s t x l dir p i))),(6,.cells 25 [iP t.iw,mG t.ig,mF t.iC]),(5,.cells 28 [iP s.tape.iw,mG s.tape.ig,mF s.tape.iC,iP s.iG,iu s.params])]⟩
def S4{k d:Int}{w:Iv}:E.le (q9 k d w ug) (.agg (oM ⟨0,k,d,w,[]⟩)):=by
 refine .agg ?_;show tc ([iP 0,iP k,iP d,_,_,_,_,_,_,_,ug]:List E) [iP 0,iP k,iP d,_,_,_,_,_,_,_,iu []];exact .cons (.refl _) (.cons (.refl _) (.cons (.refl _) (.cons (.refl _) (.cons (.refl _) (.cons (.refl _) (.cons (.refl _) (.cons (.refl _) (.cons (.refl _) (.cons (.refl _) (.cons (.nil _ _ _) .nil))))))))))
def al3(s:jN)(t:ki)(x:List Iv)(a b:Dy)(y z:List Iv)(dir:Int)(p:Nat):E.le (CA s t x a b y z dir p) (FO (IK s t x a b y z dir p)):=by
 unfold CA IK;split
 .cases yR s t x a b y p with
  |none=>exact .iE (.cons S4 (.cons (.refl _) .nil))
  |some q=>exact .refl _
 .exact .iE (.cons S4 (.cons (.refl _) .nil))
def LF{s:jN}{t:ki}{x:List RI}{l:List kN}{dir:Int}{p:Nat}(h:mq s)(ht:oI s t)(hd:dir=1\/dir=2)(iA:8<=p)(im:p<=512)(gx:∀ i,(x.getD i jC).iW)(jG:x.length=s.iG)(h0:k0 x=true)(gl:∀ i,(l.getD i iq).iW){i:Nat}(jc:∀ j,j<i->su x l j=true)(hi:su x l i=true):
 ie 11 [kf s,kW t,iD (kK x l i),.agg (uS (l.getD i iq).a++uS (l.getD i iq).b++[iD (l.getD i iq).y,iD (l.getD i iq).z]),iP dir,iP (p:Int)] (FO (qM s t x l dir p i)):=by
 obtain⟨h1,h2,h3,h4,h5,h6,h7⟩:=wR hi;obtain⟨bz,by_,lzy⟩:=DB h6;obtain⟨bb,_,lby⟩:=DB h7;obtain⟨ga,gb,gy,gz⟩:=gl i;have gbf:∀ j,((kK x l i).getD j jC).iW:=by
  unfold kK;split
  .exact gx
  .exact (gl _).2.2.2
 obtain⟨_,_,nb,eb⟩:=Ak gbf bb;obtain⟨_,_,ny,ey⟩:=Ak gy by_;obtain⟨_,_,nz,ez⟩:=Ak gz bz;rw[eb,ey,ez,Ys ga h1,Ys gb h2];have i6:=h6;have i7:=h7;unfold nu at i6 i7;rw[bQ]at i6 i7;have:=LH s t ((kK x l i).map RI.iv) (l.getD i iq).a.dy (l.getD i iq).b.dy ((l.getD i iq).y.map RI.iv) ((l.getD i iq).z.map RI.iv) dir p h ht ⟨by rw[bZ,lby,h4,jG],nb⟩ ⟨by rw[bZ,h4,jG],ny⟩ ⟨by rw[bZ,lzy,h4,jG],nz⟩ iA im h1.valid h2.valid h3 hd i7.2 i6.2;exact this.kt (al3 _ _ _ _ _ _ _ _ _)
def xZ(s:jN)(t:ki)(x:List RI)(l:List kN)(dir:Int)(p:Nat):∀ i,(jr s t x l dir p i).length<=i
 | 0=>bF 0
 |i+1=>by
  have:=xZ s t x l dir p i;show(match qM s t x l dir p i with|none=>jr s t x l dir p i|some c=>if c.kind=1 then jr s t x l dir p i else jr s t x l dir p i++[(⟨(i:Int),c.kind,c.dir,c.w,c.l⟩:q7)]).length<=i+1;split
  .omega
  .split
   .omega
   .rw [cC,fm];omega
def EP{s:jN}{t:ki}{x:List RI}{l:List kN}{dir:Int}{p:Nat}{i:Nat}{c:q7}(h:qM s t x l dir p i=some c)(hk:c.kind=1):jr s t x l dir p (i+1)=jr s t x l dir p i:=by
 show(match qM s t x l dir p i with|none=>_|some c=>_)=_;rw[h];exact bB hk
def EO{s:jN}{t:ki}{x:List RI}{l:List kN}{dir:Int}{p:Nat}{i:Nat}{c:q7}(h:qM s t x l dir p i=some c)(hk:¬c.kind=1):jr s t x l dir p (i+1)=jr s t x l dir p i++[⟨(i:Int),c.kind,c.dir,c.w,c.l⟩]:=by
 show(match qM s t x l dir p i with|none=>_|some c=>_)=_;rw[h];exact bA hk
def adZ(c:q7)(j:Nat)(hj:j<11):((oM c).getD j .any).nr 2=true:=by
 rcases j with _|_|_|_|_|_|_|_|_|_|_|j
 all_goals first|rfl|omega
def Gp{T n n' q:Nat}{M M':List q7}{c:q7}{e:Nat->Nat->E}(hn:n=M.length)(hq:q=1)(uH:n'=M'.length)(hM:M'=M++[c])(he:∀ j,j<11->e 0 j=(oM c).getD j .any):Bx.le (.row true T (n+q) 11 λi j=>if i<n then mD M i j else e (i-n) j) (.row true T n' 11 (mD M')):=by
 subst hn hq uH hM;refine .row (by rw[cC];rfl) λi j hi hj=>⟨.ji ?_,adZ _ _ hj⟩
 by_cases h:i<M.length
 .rw [bB h];show(oM (M.getD i jU)).getD j .any=(oM ((M++[c]).getD i jU)).getD j .any;simp only[bE];rw[dO h]
 .obtain rfl:i=M.length:= aC ;rw[bA h,dA,he j hj];show _=(oM ((M++[c]).getD M.length jU)).getD j .any;simp[bE]
def y5{T n n':Nat}{M M':List q7}(h:M'=M)(hn:n=M.length)(uH:n'=M'.length):Bx.le (.row true T n 11 (mD M)) (.row true T n' 11 (mD M')):=by
 subst h hn uH;exact .ji rfl
def afc(s:jN)(t:ki)(x:List RI)(l:List kN)(dir:Int)(p:Nat)(h:mq s)(ht:oI s t)(hd:dir=1\/dir=2)(iA:8<=p)(im:p<=512)(gx:∀ i,(x.getD i jC).iW)(jG:x.length=s.iG)(h0:k0 x=true)(gl:∀ i,(l.getD i iq).iW)(lr:l.length<=1000)(Dp:ie 72 [.agg [iD x,jR l]] (bP true))(jc:∀ i,i<l.length->su x l i=true)(wB:∀ i,i<l.length->∃ c,qM s t x l dir p i=some c):ie 16 [kf s,kW t,.agg [iD x,jR l],iP dir,iP p] (.iE [sD (jr s t x l dir p l.length),iP 0]):=by
 have s1:=h.s1;have s4:=h.s4;exact ak call16 func16 (af [.c (NM s t h ht),ag [.agg [iD x,jR l]] Dp,ai 34 ((x.length:Int) != (s.iG:Int)) (pf jG),ag [iP dir,iP p] (Qa dir p hd iA im),.y 12 12 true 41 11 (mD []),.s (Sp.jT (T4 s t x l dir p) 0 l.length aC (λi hi nP=>by
    have xo:=xZ s t x l dir p i;obtain⟨c,hc⟩:=wB i aC;have hq:=LF h ht hd iA im gx jG h0 gl (λj hj=>jc j aC) (jc i aC);rw[hc]at hq;by_cases hk:c.kind=1
    .exact iL (ae [tT 47 ((i:Int)<l.length) aC,iX (i:Int) (l.length) aC,ag [kf s,kW t,iD (kK x l i),.agg [bP (((l.getD i iq).a).neg),ik (((l.getD i iq).a).L),iP (((l.getD i iq).a).e),bP (((l.getD i iq).b).neg),ik (((l.getD i iq).b).L),iP (((l.getD i iq).b).e),iD ((l.getD i iq).y),iD ((l.getD i iq).z)],iP dir,iP p] hq,ai 62 ((0:Int) != 0) aE,ai 66 (c.kind != 1) (by simp[hk]),iF ((i:Int)+1) aC]<|.e (af [.o 13 (.e (.ji aV):aj (iD ((l.getD i iq).z)) (iD (kK x l (i+1)))),.b 12 (y5 (EP hc hk) rfl rfl:Bx.le (.row true 41 ((jr s t x l dir p i).length) 11 (mD (jr s t x l dir p i))) (.row true 41 ((jr s t x l dir p (i+1)).length) 11 (mD (jr s t x l dir p (i+1)))))])) aF 
    .exact iL (ae [tT 47 ((i:Int)<l.length) aC,iX (i:Int) (l.length) aC,ag [kf s,kW t,iD (kK x l i),.agg [bP (((l.getD i iq).a).neg),ik (((l.getD i iq).a).L),iP (((l.getD i iq).a).e),bP (((l.getD i iq).b).neg),ik (((l.getD i iq).b).L),iP (((l.getD i iq).b).e),iD ((l.getD i iq).y),iD ((l.getD i iq).z)],iP dir,iP p] hq,ai 62 ((0:Int) != 0) aE,ah 66 (c.kind != 1) (by simp[hk]),.a (aC:((jr s t x l dir p i).length+1)*136<=140737488355328),iF ((i:Int)+1) aC]<|.e (af [.o 13 (.e (.ji aV):aj (iD ((l.getD i iq).z)) (iD (kK x l (i+1)))),.b 12 (Gp rfl rfl rfl (EO hc hk) (λj hj=>by rcases j with _|_|_|_|_|_|_|_|_|_|_|j<;>first|rfl|omega):Bx.le (.row true 41 ((jr s t x l dir p i).length+1) 11 (λi_ j_=>if i_<(jr s t x l dir p i).length then(mD (jr s t x l dir p i)) i_ j_ else(E.kY (.sl true 1 11 λi_ j_=>[iP i,iP c.kind,iP c.dir,bP c.w.lo.neg,ik (ij c.w.lo.m),iP c.w.lo.e,bP c.w.hi.neg,ik (ij c.w.hi.m),iP c.w.hi.e,bP c.w.all,iu c.l].getD (i_*11+j_) (.v (.bool false)))) (i_-(jr s t x l dir p i).length) j_)) (.row true 41 ((jr s t x l dir p (i+1)).length) 11 (mD (jr s t x l dir p (i+1)))))])) aF)
  (λhi=>by
    exact iL (ae [tF 47 ((l.length:Int)<l.length) aC,.z 12]<|.e (af [.o 12 (.e (.ji aV):aj (.sl true ((jr s t x l dir p l.length).length) 11 (mD (jr s t x l dir p l.length))) (sD (jr s t x l dir p l.length)))])) aF) aI:jS 8 Tryz.f16 (T4 s t x l dir p 0) (.exit 1) ⟨77,true,[(12,.e (sD (jr s t x l dir p l.length)))],[]⟩) (af [.o 13 (.e (.ji aV):aj (iD x) (iD (kK x l 0))),.b 12 (y5 rfl rfl rfl:Bx.le (.row true 41 0 11 (mD [])) (.row true 41 ((jr s t x l dir p 0).length) 11 (mD (jr s t x l dir p 0))))])]) 
def afb(s:jN)(t:ki)(x:List RI)(l:List kN)(dir:Int)(p:Nat)(h:mq s)(ht:oI s t)(hd:dir=1\/dir=2)(iA:8<=p)(im:p<=512)(gx:∀ i,(x.getD i jC).iW)(jG:x.length=s.iG)(h0:k0 x=true)(gl:∀ i,(l.getD i iq).iW)(lr:l.length<=1000)(Dp:ie 72 [.agg [iD x,jR l]] (bP true))(N:Nat)(nJ:N<l.length)(jc:∀ i,i<l.length->su x l i=true)(wB:∀ i,i<N->∃ c,qM s t x l dir p i=some c)(hN:qM s t x l dir p N=none):ie 16 [kf s,kW t,.agg [iD x,jR l],iP dir,iP p] (.iE [.v (.slice none 0 0),iP 14]):=by
 have s1:=h.s1;have s4:=h.s4;exact ak call16 func16 (af [.c (NM s t h ht),ag [.agg [iD x,jR l]] Dp,ai 34 ((x.length:Int) != (s.iG:Int)) (pf jG),ag [iP dir,iP p] (Qa dir p hd iA im),.y 12 12 true 41 11 (mD []),.s (Sp.jT (T3 s t x l dir p N) 0 N aC (λi hi nP=>by
    have xo:=xZ s t x l dir p i;obtain⟨c,hc⟩:=wB i aC;have hq:=LF h ht hd iA im gx jG h0 gl (λj hj=>jc j aC) (jc i aC);rw[hc]at hq;by_cases hk:c.kind=1
    .exact iL (ae [tT 47 ((i:Int)<l.length) aC,iX (i:Int) (l.length) aC,ag [kf s,kW t,iD (kK x l i),.agg [bP (((l.getD i iq).a).neg),ik (((l.getD i iq).a).L),iP (((l.getD i iq).a).e),bP (((l.getD i iq).b).neg),ik (((l.getD i iq).b).L),iP (((l.getD i iq).b).e),iD ((l.getD i iq).y),iD ((l.getD i iq).z)],iP dir,iP p] hq,ai 62 ((0:Int) != 0) aE,ai 66 (c.kind != 1) (by simp[hk]),iF ((i:Int)+1) aC]<|.e (af [.o 13 (.e (.ji aV):aj (iD ((l.getD i iq).z)) (iD (kK x l (i+1)))),.b 12 (y5 (EP hc hk) rfl rfl:Bx.le (.row true 41 ((jr s t x l dir p i).length) 11 (mD (jr s t x l dir p i))) (.row true 41 ((jr s t x l dir p (i+1)).length) 11 (mD (jr s t x l dir p (i+1)))))])) aF 
    .exact iL (ae [tT 47 ((i:Int)<l.length) aC,iX (i:Int) (l.length) aC,ag [kf s,kW t,iD (kK x l i),.agg [bP (((l.getD i iq).a).neg),ik (((l.getD i iq).a).L),iP (((l.getD i iq).a).e),bP (((l.getD i iq).b).neg),ik (((l.getD i iq).b).L),iP (((l.getD i iq).b).e),iD ((l.getD i iq).y),iD ((l.getD i iq).z)],iP dir,iP p] hq,ai 62 ((0:Int) != 0) aE,ah 66 (c.kind != 1) (by simp[hk]),.a (aC:((jr s t x l dir p i).length+1)*136<=140737488355328),iF ((i:Int)+1) aC]<|.e (af [.o 13 (.e (.ji aV):aj (iD ((l.getD i iq).z)) (iD (kK x l (i+1)))),.b 12 (Gp rfl rfl rfl (EO hc hk) (λj hj=>by rcases j with _|_|_|_|_|_|_|_|_|_|_|j<;>first|rfl|omega):Bx.le (.row true 41 ((jr s t x l dir p i).length+1) 11 (λi_ j_=>if i_<(jr s t x l dir p i).length then(mD (jr s t x l dir p i)) i_ j_ else(E.kY (.sl true 1 11 λi_ j_=>[iP i,iP c.kind,iP c.dir,bP c.w.lo.neg,ik (ij c.w.lo.m),iP c.w.lo.e,bP c.w.hi.neg,ik (ij c.w.hi.m),iP c.w.hi.e,bP c.w.all,iu c.l].getD (i_*11+j_) (.v (.bool false)))) (i_-(jr s t x l dir p i).length) j_)) (.row true 41 ((jr s t x l dir p (i+1)).length) 11 (mD (jr s t x l dir p (i+1)))))])) aF)
  (λhi=>by
    have xo:=xZ s t x l dir p N;have hq:=LF h ht hd iA im gx jG h0 gl (λj hj=>jc j aC) (jc N nJ);rw[hN]at hq;exact iL (af [tT 47 ((N:Int)<l.length) aC,iX (N:Int) (l.length) aC,ag [kf s,kW t,iD (kK x l N),.agg [bP (((l.getD N iq).a).neg),ik (((l.getD N iq).a).L),iP (((l.getD N iq).a).e),bP (((l.getD N iq).b).neg),ik (((l.getD N iq).b).L),iP (((l.getD N iq).b).e),iD ((l.getD N iq).y),iD ((l.getD N iq).z)],iP dir,iP p] hq,ah 62 ((14:Int) != 0) aE]) aF) aI:jS 8 Tryz.f16 (T3 s t x l dir p N 0) .ret ⟨77,true,[(11,.e (iP 14)),(10,.e (.v (.slice none 0 0)))],[]⟩) (af [.o 13 (.e (.ji aV):aj (iD x) (iD (kK x l 0))),.b 12 (y5 rfl rfl rfl:Bx.le (.row true 41 0 11 (mD [])) (.row true 41 ((jr s t x l dir p 0).length) 11 (mD (jr s t x l dir p 0))))])]) 
def adY:tc [iP 0,iP 0,iP 0,bP false,.v (.slice none 0 0),iP 0,bP false,.v (.slice none 0 0),iP 0,bP false,.v (.slice none 0 0)] (oM jU):=by
 have e1:E.le (.v (.slice none 0 0)) (ik (ij 0)):=by rw[oV];exact .nil _ _ _
 exact .cons (.refl _) (.cons (.refl _) (.cons (.refl _) (.cons (.refl _) (.cons e1 (.cons (.refl _) (.cons (.refl _) (.cons e1 (.cons (.refl _) (.cons (.refl _) (.cons (.nil _ _ _) .nil))))))))))
def Nb{e:Int}:E.le (.iE [.agg [iP 0,iP 0,iP 0,bP false,.v (.slice none 0 0),iP 0,bP false,.v (.slice none 0 0),iP 0,bP false,.v (.slice none 0 0)],iP e]) (.iE [.agg (oM jU),iP e]):=
 .iE (.cons (.agg adY) (.cons (.refl _) .nil))
def T6(s t:jt)(x:List RI)(l:List kN)(dir p e:Int)(he:e≠0)(hF:ie 16 [kz s,kH t,.agg [iD x,jR l],iP dir,iP p] (.iE [.v (.slice none 0 0),iP e])):ie 17 [kz s,kH t,.agg [iD x,jR l],iP dir,iP p] (.iE [.agg (oM jU),iP e]):=
 ak call17 func17 (ae [ag [kz s,kH t,.agg [iD x,jR l],iP dir,iP p] hF,tB 25 (bw he)]<|rR (.iE [.agg (oM jU),iP e]) (Nb:E.le (.iE [.agg [iP 0,iP 0,iP 0,bP false,.v (.slice none 0 0),iP 0,bP false,.v (.slice none 0 0),iP 0,bP false,.v (.slice none 0 0)],iP e]) (.iE [.agg (oM jU),iP e]))) 
def afv(s:jN)(t:ki)(x:List RI)(l:List kN)(dir:Int)(p:Nat)(e:Int)(he:e≠0)(hF:ie 16 [kf s,kW t,.agg [iD x,jR l],iP dir,iP p] (.iE [.v (.slice none 0 0),iP e])):ie 17 [kf s,kW t,.agg [iD x,jR l],iP dir,iP p] (.iE [.agg (oM jU),iP e]):=
 ak call17 func17 (ae [ag [kf s,kW t,.agg [iD x,jR l],iP dir,iP p] hF,tB 25 (bw he)]<|rR (.iE [.agg (oM jU),iP e]) (Nb:E.le (.iE [.agg [iP 0,iP 0,iP 0,bP false,.v (.slice none 0 0),iP 0,bP false,.v (.slice none 0 0),iP 0,bP false,.v (.slice none 0 0)],iP e]) (.iE [.agg (oM jU),iP e]))) 
def afw(s:jN)(t:ki)(x:List RI)(l:List kN)(dir:Int)(p:Nat)(L:List q7)(hF:ie 16 [kf s,kW t,.agg [iD x,jR l],iP dir,iP p] (.iE [sD L,iP 0]))(hn:L.length=0):ie 17 [kf s,kW t,.agg [iD x,jR l],iP dir,iP p] (.iE [.agg (oM jU),iP 7]):=
 ak call17 func17 (ae [ag [kf s,kW t,.agg [iD x,jR l],iP dir,iP p] hF,ai 25 ((0:Int) != 0) aE,ah 31 ((L.length:Int)==0) (bn aC)]<|rR (.iE [.agg (oM jU),iP 7]) (Nb:E.le (.iE [.agg [iP 0,iP 0,iP 0,bP false,.v (.slice none 0 0),iP 0,bP false,.v (.slice none 0 0),iP 0,bP false,.v (.slice none 0 0)],iP 7]) (.iE [.agg (oM jU),iP 7]))) 
def afx(s:jN)(t:ki)(x:List RI)(l:List kN)(dir:Int)(p:Nat)(L:List q7)(hF:ie 16 [kf s,kW t,.agg [iD x,jR l],iP dir,iP p] (.iE [sD L,iP 0]))(hn:0<L.length)(hL:L.length<=1000):ie 17 [kf s,kW t,.agg [iD x,jR l],iP dir,iP p] (.iE [.agg (oM (L.getD 0 jU)),iP 0]):=
 ak call17 func17 (ae [ag [kf s,kW t,.agg [iD x,jR l],iP dir,iP p] hF,ai 25 ((0:Int) != 0) aE,ai 31 ((L.length:Int)==0) (bk aC),
  iX 0 (L.length) aC]<|rR (.iE [.agg (oM (L.getD 0 jU)),iP 0]) (.ji rfl:E.le (.iE [.agg ([iP ((L.getD 0 jU).sP),iP ((L.getD 0 jU).kind),iP ((L.getD 0 jU).dir)]++iN ((L.getD 0 jU).w)++[iu ((L.getD 0 jU).l)]),iP 0]) (.iE [.agg (oM (L.getD 0 jU)),iP 0]))) 
def ae6(s:jt)(g:s.iW)(sm:s.pq)(t:jt)(gt:t.iW)(stm:t.ig.length<=1000)(x:List RI)(gx:∀ i,(x.getD i jC).iW)(jG:x.length<=1000)(l:List kN)(gl:∀ i,(l.getD i iq).iW)(kS:∀ i,(l.getD i iq).y.length<=1000/\(l.getD i iq).z.length<=1000)(lr:l.length<=1000)(dir p:Int)(h1:mT s t=false):ie 16 [kz s,kH t,.agg [iD x,jR l],iP dir,iP p] (.iE [.v (.slice none 0 0),iP 1]):=
 ak call16 func16 (af [.c (JZ s g sm t gt stm),ai 21 (mT s t) h1]) 
def ae7(s:jt)(g:s.iW)(sm:s.pq)(t:jt)(gt:t.iW)(stm:t.ig.length<=1000)(x:List RI)(gx:∀ i,(x.getD i jC).iW)(jG:x.length<=1000)(l:List kN)(gl:∀ i,(l.getD i iq).iW)(kS:∀ i,(l.getD i iq).y.length<=1000/\(l.getD i iq).z.length<=1000)(lr:l.length<=1000)(dir p:Int)(h1:mT s t=true)(h2:oB x l=false):ie 16 [kz s,kH t,.agg [iD x,jR l],iP dir,iP p] (.iE [.v (.slice none 0 0),iP 1]):=
 ak call16 func16 (af [.c (JZ s g sm t gt stm),ah 21 (mT s t) h1,ag [.agg [iD x,jR l]] (K8 x gx jG l gl kS lr),ai 25 (oB x l) h2]) 
def ae8(s:jt)(g:s.iW)(sm:s.pq)(t:jt)(gt:t.iW)(stm:t.ig.length<=1000)(x:List RI)(gx:∀ i,(x.getD i jC).iW)(jG:x.length<=1000)(l:List kN)(gl:∀ i,(l.getD i iq).iW)(kS:∀ i,(l.getD i iq).y.length<=1000/\(l.getD i iq).z.length<=1000)(lr:l.length<=1000)(dir p:Int)(h1:mT s t=true)(h2:oB x l=true)(h3:(x.length:Int)≠s.iG):ie 16 [kz s,kH t,.agg [iD x,jR l],iP dir,iP p] (.iE [.v (.slice none 0 0),iP 1]):=
 ak call16 func16 (af [.c (JZ s g sm t gt stm),ah 21 (mT s t) h1,ag [.agg [iD x,jR l]] (K8 x gx jG l gl kS lr),ah 25 (oB x l) h2,ah 34 ((x.length:Int) != s.iG) (by rw[bne_iff_ne];exact h3)]) 
def ae9(s:jt)(g:s.iW)(sm:s.pq)(t:jt)(gt:t.iW)(stm:t.ig.length<=1000)(x:List RI)(gx:∀ i,(x.getD i jC).iW)(jG:x.length<=1000)(l:List kN)(gl:∀ i,(l.getD i iq).iW)(kS:∀ i,(l.getD i iq).y.length<=1000/\(l.getD i iq).z.length<=1000)(lr:l.length<=1000)(dir p:Int)(h1:mT s t=true)(h2:oB x l=true)(h3:(x.length:Int)=s.iG)(h4:s5 dir p=false):ie 16 [kz s,kH t,.agg [iD x,jR l],iP dir,iP p] (.iE [.v (.slice none 0 0),iP 2]):=
 ak call16 func16 (af [.c (JZ s g sm t gt stm),ah 21 (mT s t) h1,ag [.agg [iD x,jR l]] (K8 x gx jG l gl kS lr),ah 25 (oB x l) h2,ai 34 ((x.length:Int) != s.iG) (by simp[h3]),.c (X1 dir p),ai 39 (s5 dir p) h4]) 
def aah(s:jt)(N:Nat)(x:Nat):PS:=⟨70,true,[(3,.e (iP x)),(1,.box 1 0)],[(1,.cells 25 [iP s.iw,jK s.ig,jM s.iC])]⟩
def aai(s:jt)(x:Nat):PS:=⟨70,true,[(3,.e (iP x)),(1,.box 1 0)],[(1,.cells 25 [iP s.iw,jK s.ig,jM s.iC])]⟩
def XV(s:jt)(x:Nat):PS:=⟨70,true,[(4,.e (iP x)),(1,.box 1 0)],[(1,.cells 25 [iP s.iw,jK s.ig,jM s.iC])]⟩
def aaj(s:jt)(x:Nat):PS:=⟨70,true,[(3,.e (iP x)),(1,.box 1 0)],[(1,.cells 25 [iP s.iw,jK s.ig,jM s.iC])]⟩
def XU(s:jt)(N:Nat)(x:Nat):PS:=⟨70,true,[(4,.e (iP x)),(1,.box 1 0)],[(1,.cells 25 [iP s.iw,jK s.ig,jM s.iC])]⟩
def ML(n d:Int):ie 218 [.agg [iP n,iP d]] (bP (decide (n=0/\d=0))):=
 ak call218 func218 (.w (n=0)
  (λk1=>ae [tB 5 (bn k1)]<|rQ (bP (d==0)) (bP (decide (n=0/\d=0))) (jL (by rw[dv];simp_all<;>omega)))
  (λk1=>ae [tB 5 (bk k1)]<|rQ (bP false) (bP (decide (n=0/\d=0))) (jL (by rw[dv];simp_all<;>omega)))) 
noncomputable def KX(o:mO)(m:Int)(g:o.iW)(A B:Bool)(hA:A=decide (0<=o.a/\o.a<m))(hB:B=decide (0<=o.b/\o.b<m)):Tr prog Tb:=
  .w (o.kind=1)
  (λk1=>ae [tB 28 (bn k1)]<|.w (o.a=0)
   (λk2=>ae [tB 31 (bn k2)]<|.w (o.b=0)
    (λk3=>ae [tB 35 (bn k3)]<|.w (o.n=0)
     (λk4=>ae [tB 40 (bn k4),.c (Yf o.cn o.cd)]<|rQ (bP (nO o.cn o.cd)) (bP (jb o m)) (jL aO))
     (λk4=>ae [tB 40 (bk k4)]<|rQ (bP false) (bP (jb o m)) (jL aO)))
    (λk3=>ae [tB 35 (bk k3)]<|rQ (bP false) (bP (jb o m)) (jL aO)))
   (λk2=>ae [tB 31 (bk k2)]<|rQ (bP false) (bP (jb o m)) (jL aO)))
  (λk1=>ae [tB 28 (bk k1),.j 94 ⟨112,true,[(47,.e (bP (decide (3<=o.kind/\o.kind<=6)))),(26,.e (iP o.kind)),(6,.e (bP B)),(5,.e (bP A)),(2,.box 2 0)],[(2,.cells 107 [iP o.kind,iP o.a,iP o.b,iP o.n,iP o.cn,iP o.cd])]⟩
   (.w (o.kind=3)
    (λm1=>ae [.v 47 (.bool (bn m1))]<|.e (af [tB 47 (px aJ:true=(decide (3<=o.kind/\o.kind<=6)))]))
    (λm1=>ae [.v 47 (.bool (bk m1))]<|.w (o.kind=4)
     (λm2=>ae [tB 49 (bn m2)]<|.e (af [tB 47 (px aJ:true=(decide (3<=o.kind/\o.kind<=6)))]))
     (λm2=>ae [tB 49 (bk m2)]<|.w (o.kind=5)
      (λm3=>ae [tB 50 (bn m3)]<|.e (af [tB 47 (px aJ:true=(decide (3<=o.kind/\o.kind<=6)))]))
      (λm3=>ae [tB 50 (bk m3)]<|.e (af [tB 47 (px aJ:(o.kind==6)=(decide (3<=o.kind/\o.kind<=6)))])))))]<|.w (3<=o.kind/\o.kind<=6)
   (λk2=>ae [.v 47 (.bool (bC k2))]<|.w (A=true)
    (λk3=>ae [tB 52 k3]<|.w (B=true)
     (λk4=>ae [tB 54 k4]<|.w (o.n=0)
      (λk5=>ae [tB 59 (bn k5),.c (ML o.cn o.cd)]<|rQ (bP (decide (o.cn=0/\o.cd=0))) (bP (jb o m)) (jL aO))
      (λk5=>ae [tB 59 (bk k5)]<|rQ (bP false) (bP (jb o m)) (jL aO)))
     (λk4=>ae [tB 54 (bt k4)]<|rQ (bP false) (bP (jb o m)) (jL aO)))
    (λk3=>ae [tB 52 (bt k3)]<|rQ (bP false) (bP (jb o m)) (jL aO)))
   (λk2=>ae [.v 47 (.bool (bD k2)),.j 132 ⟨112,true,[(66,.e (bP (decide (o.kind=7\/9<=o.kind/\o.kind<=13)))),(26,.e (iP o.kind)),(5,.e (bP A)),(2,.box 2 0)],[(2,.cells 107 [iP o.kind,iP o.a,iP o.b,iP o.n,iP o.cn,iP o.cd])]⟩
   (.w (o.kind=7)
    (λm1=>ae [.v 66 (.bool (bn m1))]<|.e (af [tB 66 (px aJ:true=(decide (o.kind=7\/9<=o.kind/\o.kind<=13)))]))
    (λm1=>ae [.v 66 (.bool (bk m1))]<|.w (o.kind=9)
     (λm2=>ae [tB 68 (bn m2)]<|.e (af [tB 66 (px aJ:true=(decide (o.kind=7\/9<=o.kind/\o.kind<=13)))]))
     (λm2=>ae [tB 68 (bk m2)]<|.w (o.kind=10)
      (λm3=>ae [tB 69 (bn m3)]<|.e (af [tB 66 (px aJ:true=(decide (o.kind=7\/9<=o.kind/\o.kind<=13)))]))
      (λm3=>ae [tB 69 (bk m3)]<|.w (o.kind=11)
       (λm4=>ae [tB 70 (bn m4)]<|.e (af [tB 66 (px aJ:true=(decide (o.kind=7\/9<=o.kind/\o.kind<=13)))]))
       (λm4=>ae [tB 70 (bk m4)]<|.w (o.kind=12)
        (λm5=>ae [tB 71 (bn m5)]<|.e (af [tB 66 (px aJ:true=(decide (o.kind=7\/9<=o.kind/\o.kind<=13)))]))
        (λm5=>ae [tB 71 (bk m5)]<|.e (af [tB 66 (px aJ:(o.kind==13)=(decide (o.kind=7\/9<=o.kind/\o.kind<=13)))])))))))]<|.w (o.kind=7\/9<=o.kind/\o.kind<=13)
    (λk3=>ae [.v 66 (.bool (bC k3))]<|.w (A=true)
     (λk4=>ae [tB 73 k4]<|.w (o.b=0)
      (λk5=>ae [tB 77 (bn k5)]<|.w (o.n=0)
       (λk6=>ae [tB 82 (bn k6),.c (ML o.cn o.cd)]<|rQ (bP (decide (o.cn=0/\o.cd=0))) (bP (jb o m)) (jL aO))
       (λk6=>ae [tB 82 (bk k6)]<|rQ (bP false) (bP (jb o m)) (jL aO)))
      (λk5=>ae [tB 77 (bk k5)]<|rQ (bP false) (bP (jb o m)) (jL aO)))
     (λk4=>ae [tB 73 (bt k4)]<|rQ (bP false) (bP (jb o m)) (jL aO)))
    (λk3=>ae [.v 66 (.bool (bD k3))]<|.w (o.kind=8)
     (λk4=>ae [tB 90 (bn k4)]<|.w (A=true)
      (λk5=>ae [tB 91 k5]<|.w (o.b=0)
       (λk6=>ae [tB 95 (bn k6)]<|.w (0<=o.n)
        (λk7=>ae [tB 100 (bC k7)]<|.w (o.n<=16)
         (λk8=>ae [tB 105 (bC k8),.c (ML o.cn o.cd)]<|rQ (bP (decide (o.cn=0/\o.cd=0))) (bP (jb o m)) (jL aO))
         (λk8=>ae [tB 105 (bD k8)]<|rQ (bP false) (bP (jb o m)) (jL aO)))
        (λk7=>ae [tB 100 (bD k7)]<|rQ (bP false) (bP (jb o m)) (jL aO)))
       (λk6=>ae [tB 95 (bk k6)]<|rQ (bP false) (bP (jb o m)) (jL aO)))
      (λk5=>ae [tB 91 (bt k5)]<|rQ (bP false) (bP (jb o m)) (jL aO)))
     (λk4=>ae [tB 90 (bk k4)]<|rQ (bP false) (bP (jb o m)) (jL aO)))))
def KY(o:mO)(m:Int)(g:o.iW):ie 162 [uT o,iP m] (bP (jb o m)):=
 ak call162 func162 (.w (0<=o.a)
  (λk1=>ae [tB 9 (bC k1)]<|.w (0<=o.b)
   (λk2=>ae [tB 18 (bC k2)]<|KX o m g (decide (o.a<m)) (decide (o.b<m)) aU aU)
   (λk2=>ae [tB 18 (bD k2)]<|KX o m g (decide (o.a<m)) false aU aU))
  (λk1=>ae [tB 9 (bD k1)]<|.w (0<=o.b)
   (λk2=>ae [tB 18 (bC k2)]<|KX o m g false (decide (o.b<m)) aU aU)
   (λk2=>ae [tB 18 (bD k2)]<|KX o m g false false aU aU))) 
def XT{s:jt}{k:Int}(h:rU s k=true):0<=k/\k<s.iw+(s.ig.length:Int):=cR h
def an7(s:jt)(g:s.iW)(sm:s.ig.length<=1000)(hc:¬(0<=s.iw/\s.iw<=8/\s.ig.length<=200/\s.iC.length<=200)):ie 78 [kH s] (bP false):=
 ak call78 func78 (.w (s.iw<0)
  (λk1=>af [tB 7 (bC k1)])
  (λk1=>ae [tB 7 (bD k1)]<|.w (8<s.iw)
   (λk2=>af [tB 11 (bC k2)])
   (λk2=>ae [tB 11 (bD k2)]<|.w (200<(s.ig.length:Int))
    (λk3=>af [tB 17 (bC k3)])
    (λk3=>ae [tB 17 (bD k3)]<|.w (200<(s.iC.length:Int))
     (λk4=>af [tB 23 (bC k4)])
     (λk4=>.x aC))))) 
def an8(s:jt)(g:s.iW)(sm:s.ig.length<=1000)(i0:0<=s.iw)(i8:s.iw<=8)(l1:s.ig.length<=200)(l2:s.iC.length<=200)(N:Nat)(nJ:N<s.ig.length)(jc:∀ k,k<N->(jb (s.ig.getD k kA) (s.iw+(k:Int)))=true)(hN:(jb (s.ig.getD N kA) (s.iw+(N:Int)))=false):ie 78 [kH s] (bP false):=
 ak call78 func78 (af [tF 7 (s.iw<0) aC,tF 11 (8<s.iw) aC,tF 17 (200<(s.ig.length:Int)) aC,tF 23 (200<(s.iC.length:Int)) aC,.s (Sp.jT (aah s N) 0 N aC (λx hx lJ=>by
    have mU:=g.ig x;exact iL (af [tT 29 ((x:Int)<s.ig.length) aC,iX (x:Int) (s.ig.length) aC,iF (s.iw+(x:Int)) aC,.c (KY (s.ig.getD x kA) (s.iw+(x:Int)) mU),ai 42 (!(jb (s.ig.getD x kA) (s.iw+(x:Int)))) (by rw[jc x aC];rfl),iF ((x:Int)+1) aC]) aF)
  (λhx=>by
    have mU:=g.ig N;exact iL (af [tT 29 ((N:Int)<s.ig.length) aC,iX (N:Int) (s.ig.length) aC,iF (s.iw+(N:Int)) aC,.c (KY (s.ig.getD N kA) (s.iw+(N:Int)) mU),ah 42 (!(jb (s.ig.getD N kA) (s.iw+(N:Int)))) (by rw[hN];rfl)]) aF) aI:jS 4 Tryz.f78 (aah s N 0) .ret ⟨70,true,[(2,.e (bP false))],[]⟩) .nil]) 
def an9(s:jt)(g:s.iW)(sm:s.ig.length<=1000)(i0:0<=s.iw)(i8:s.iw<=8)(l1:s.ig.length<=200)(l2:s.iC.length<=200)(jc:∀ k,k<s.ig.length->(jb (s.ig.getD k kA) (s.iw+(k:Int)))=true)(wB:∀ k,k<s.iC.length->rU s (s.iC.getD k 0)=true):ie 78 [kH s] (bP true):=
 ak call78 func78 (af [tF 7 (s.iw<0) aC,tF 11 (8<s.iw) aC,tF 17 (200<(s.ig.length:Int)) aC,tF 23 (200<(s.iC.length:Int)) aC,.s (Sp.jT (aai s) 0 s.ig.length aC (λx hx lJ=>by
    have mU:=g.ig x;exact iL (af [tT 29 ((x:Int)<s.ig.length) aC,iX (x:Int) (s.ig.length) aC,iF (s.iw+(x:Int)) aC,.c (KY (s.ig.getD x kA) (s.iw+(x:Int)) mU),ai 42 (!(jb (s.ig.getD x kA) (s.iw+(x:Int)))) (by rw[jc x aC];rfl),iF ((x:Int)+1) aC]) aF)
  (λhx=>by
    exact iL (af [tF 29 ((s.ig.length:Int)<s.ig.length) aC]) aF) aI:jS 4 Tryz.f78 (aai s 0) (.exit 0) ⟨70,true,[(1,.box 1 0)],[(1,.cells 25 [iP s.iw,jK s.ig,jM s.iC])]⟩) .nil,.s (Sp.jT (XV s) 0 s.iC.length aC (λx hx lJ=>by
    have hu:=XT (wB x aC);exact iL (af [tT 47 ((x:Int)<s.iC.length) aC,iX (x:Int) (s.iC.length) aC,tF 55 ((s.iC.getD x 0)<0) aC,iX (x:Int) (s.iC.length) aC,
     iF (s.iw+(s.ig.length:Int)) aC,tF 68 ((s.iw+(s.ig.length:Int))<=(s.iC.getD x 0)) aC,iF ((x:Int)+1) aC]) aF)
  (λhx=>by
    exact iL (af [tF 47 ((s.iC.length:Int)<s.iC.length) aC]) aF) aI:jS 9 Tryz.f78 (XV s 0) (.exit 2) ⟨70,true,[],[]⟩) .nil]) 
def ajL{s:jt}{k:Int}(h:rU s k=false)(h0:¬k<0):s.iw+(s.ig.length:Int)<=k:=by
 have:=eI h;omega
def aoa(s:jt)(g:s.iW)(sm:s.ig.length<=1000)(i0:0<=s.iw)(i8:s.iw<=8)(l1:s.ig.length<=200)(l2:s.iC.length<=200)(jc:∀ k,k<s.ig.length->(jb (s.ig.getD k kA) (s.iw+(k:Int)))=true)(N:Nat)(nJ:N<s.iC.length)(wB:∀ k,k<N->rU s (s.iC.getD k 0)=true)(hN:rU s (s.iC.getD N 0)=false):ie 78 [kH s] (bP false):=
 ak call78 func78 (af [tF 7 (s.iw<0) aC,tF 11 (8<s.iw) aC,tF 17 (200<(s.ig.length:Int)) aC,tF 23 (200<(s.iC.length:Int)) aC,.s (Sp.jT (aaj s) 0 s.ig.length aC (λx hx lJ=>by
    have mU:=g.ig x;exact iL (af [tT 29 ((x:Int)<s.ig.length) aC,iX (x:Int) (s.ig.length) aC,iF (s.iw+(x:Int)) aC,.c (KY (s.ig.getD x kA) (s.iw+(x:Int)) mU),ai 42 (!(jb (s.ig.getD x kA) (s.iw+(x:Int)))) (by rw[jc x aC];rfl),iF ((x:Int)+1) aC]) aF)
  (λhx=>by
    exact iL (af [tF 29 ((s.ig.length:Int)<s.ig.length) aC]) aF) aI:jS 4 Tryz.f78 (aaj s 0) (.exit 0) ⟨70,true,[(1,.box 1 0)],[(1,.cells 25 [iP s.iw,jK s.ig,jM s.iC])]⟩) .nil,.s (Sp.jT (XU s N) 0 N aC (λx hx lJ=>by
    have hu:=XT (wB x aC);exact iL (af [tT 47 ((x:Int)<s.iC.length) aC,iX (x:Int) (s.iC.length) aC,tF 55 ((s.iC.getD x 0)<0) aC,iX (x:Int) (s.iC.length) aC,
     iF (s.iw+(s.ig.length:Int)) aC,tF 68 ((s.iw+(s.ig.length:Int))<=(s.iC.getD x 0)) aC,iF ((x:Int)+1) aC]) aF)
  (λhx=>by
    by_cases hu:(s.iC.getD N 0)<0
    .exact iL (af [tT 47 ((N:Int)<s.iC.length) aC,iX (N:Int) (s.iC.length) aC,tT 55 ((s.iC.getD N 0)<0) aC]) aF 
    .have hv:=ajL hN hu;exact iL (af [tT 47 ((N:Int)<s.iC.length) aC,iX (N:Int) (s.iC.length) aC,tF 55 ((s.iC.getD N 0)<0) aC,iX (N:Int) (s.iC.length) aC,
     iF (s.iw+(s.ig.length:Int)) aC,tT 68 ((s.iw+(s.ig.length:Int))<=(s.iC.getD N 0)) aC]) aF) aI:jS 9 Tryz.f78 (XU s N 0) .ret ⟨70,true,[(2,.e (bP false))],[]⟩) .nil]) 
def aob(s:jt)(g:s.iW)(sm:s.ig.length<=1000):ie 78 [kH s] (bP (sO s)):=by
 by_cases c1:0<=s.iw/\s.iw<=8/\s.ig.length<=200/\s.iC.length<=200
 rotate_left
 .rw [show sO s=false by unfold sO;rw[bD c1];rfl];exact an7 s g sm c1
 obtain⟨i0,i8,l1,l2⟩:=c1;by_cases c2:FK s=true
 rotate_left
 .rw [show sO s=false by unfold sO;rw[bt c2];simp];obtain⟨N,n1,n2,n3⟩:=xR c2;exact an8 s g sm i0 i8 l1 l2 N n1 (λk hk=>by simpa using n3 k hk) (by simpa using n2)
 have jc:∀ k,k<s.ig.length->jb (s.ig.getD k kA) (s.iw+(k:Int))=true:=λk hk=>bU.1 c2 k (b6.2 hk)
 rw[show sO s=s7 s by unfold sO;rw[bC (⟨i0,i8,l1,l2⟩:_/\_),c2];rfl];by_cases c3:s7 s=true
 .rw [c3];exact an9 s g sm i0 i8 l1 l2 jc λk hk=>bU.1 c3 k (b6.2 hk)
 .rw [bt c3];obtain⟨N,n1,n2,n3⟩:=xR c3;exact aoa s g sm i0 i8 l1 l2 jc N n1 (λk hk=>by simpa using n3 k hk) (by simpa using n2)
def Dc(s:jt)(g:s.iW)(sm:s.pq)(t:jt)(gt:t.iW)(stm:t.ig.length<=1000):ie 21 [kz s,kH t] (bP (mT s t)):=
 ak call21 func21 (ae [ag [kz s] (aky _ g sm)]<|.w (qb s=true)
  (λk1=>ae [tB 6 k1,ag [kH t] (aob _ gt stm)]<|.w (sO t=true)
   (λk2=>ae [tB 9 k2]<|.w (t.iw=s.iw)
    (λk3=>ae [tB 17 (bn k3)]<|rQ (bP ((t.iC.length:Int)==1)) (bP (mT s t)) (jL aT))
    (λk3=>ae [tB 17 (bk k3)]<|rQ (bP false) (bP (mT s t)) (jL aT)))
   (λk2=>ae [tB 9 (bt k2)]<|rQ (bP false) (bP (mT s t)) (jL aT)))
  (λk1=>ae [tB 6 (bt k1)]<|rQ (bP false) (bP (mT s t)) (jL aT))) 
def rZ(k:Int):Int:=if k=1 then 1 else if k=2 then -1 else 0
def ID(k:Int):ie 22 [iP k] (iP (rZ k)):=
 ak call22 func22 (.w (k=1)
  (λk1=>ae [tB 4 (bn k1)]<|rQ (iP 1) (iP (rZ k)) (tX (by unfold rZ;simp_all)))
  (λk1=>ae [tB 4 (bk k1)]<|.w (k=2)
   (λk2=>ae [tB 6 (bn k2)]<|rQ (iP (-1)) (iP (rZ k)) (tX (by unfold rZ;simp_all)))
   (λk2=>ae [tB 6 (bk k2)]<|rQ (iP 0) (iP (rZ k)) (tX (by unfold rZ;simp_all))))) 
def ZK(nl:Bool)(n N:Nat)(el:Nat->Nat->E)(g:FuncId)(cap:List E)(i:Nat):PS:=⟨19,false,[(8,.e (iP i)),(7,.e (iP n)),(0,.e (.sl nl n 8 el)),(1,.e (.fn g cap))],[]⟩
def ZJ(nl:Bool)(n:Nat)(el:Nat->Nat->E)(g:FuncId)(cap:List E)(i:Nat):PS:=⟨19,false,[(8,.e (iP i)),(7,.e (iP n)),(0,.e (.sl nl n 8 el)),(1,.e (.fn g cap))],[]⟩
def Tx(a:List q7)(g:FuncId)(cap:List E)(i:Nat):PS:=⟨32,false,[(17,.e (iP i)),(16,.e (iP a.length)),(15,.e (sD a)),(1,.e (sD a)),(2,.e (.fn g cap))],[]⟩
def Jx(x w:List RI):ie 51 [(.sl true 2 1 λi_ j_=>[(.sl true 1 1 λi_ j_=>[iD x].getD (i_*1+j_) (.v (.bool false))),(.sl true 1 1 λi_ j_=>[iD w].getD (i_*1+j_) (.v (.bool false)))].getD (i_*1+j_) (.v (.bool false)))] (.sl true 2 1 λi_ j_=>[iD x,iD w].getD (i_*1+j_) (.v (.bool false))):=
 ak call51 func51 (ae [.u 70,ah 12 (decide ((0:Int)<2)) aE,iX 0 2 aC,iF (0+1) aC,ai 20 (decide (((0+1):Int)<0)) aE,iF (0+1) aC,ah 12 (decide (((0+1):Int)<2)) aE,iX (0+1) 2 aC,iF ((0+1)+1) aC,ai 20 (decide ((((0+1)+1):Int)<0)) aE,iF ((0+1)+1) aC,ai 12 (decide ((((0+1)+1):Int)<2)) aE,.cn (Uk _ (by first|omega|decide):w8 129 [.v (.slice none 0 0),iP ((0+1)+1)] true 26 0 1 (λ_ _=>.any)),.u 70,ah 28 (decide ((0:Int)<2)) aE,iX 0 2 aC,.a (aC:(0+1)*24<=140737488355328),iF (0+1) aC,ah 28 (decide (((0+1):Int)<2)) aE,iX (0+1) 2 aC,.a (aC:(1+1)*24<=140737488355328),iF ((0+1)+1) aC,ai 28 (decide ((((0+1)+1):Int)<2)) aE,.z 24]<|rR (.sl true 2 1 λi_ j_=>[iD x,iD w].getD (i_*1+j_) (.v (.bool false))) (.sl λi j hi hj=>by obtain rfl:j=0:= aC;obtain rfl|rfl:i=0\/i=1:= aC <;>exact⟨.ji rfl,rfl⟩:E.le (.sl true 2 1 (λi_ j_=>if i_<1 then(λi_ j_=>if i_<0 then(λ_ _=>.any) i_ j_ else(E.kY (.sl true 1 1 λi_ j_=>[iD x].getD (i_*1+j_) (.v (.bool false)))) (i_-0) j_) i_ j_ else(E.kY (.sl true 1 1 λi_ j_=>[iD w].getD (i_*1+j_) (.v (.bool false)))) (i_-1) j_)) (.sl true 2 1 λi_ j_=>[iD x,iD w].getD (i_*1+j_) (.v (.bool false))))) 
def ml(s t:jt)(p:Int)(x:List RI):Bool:=pE s t p||(nd x||nd s.params)
def JX(s:jt)(x:List RI):ie 50 [(.sl true 2 1 λi_ j_=>[iD x,iD s.params].getD (i_*1+j_) (.v (.bool false))),.fn 52 []] (bP (nd x||nd s.params)):=by
 have:=YZ true 2 (λi_ j_=>[iD x,iD s.params].getD (i_*1+j_) (.v (.bool false))) 52 [] (λi=>if i=0 then nd x else nd s.params) (λi hi=>by
  obtain rfl|rfl:i=0\/i=1:= aC 
  .exact GI x
  .exact GI s.params) aC 
 exact this.kt (.ji (by rw[show List.range 2=[0,1]from rfl];simp))
def yb(s t:jt)(p:Int)(x:List RI):ie 8 [kz s,kH t,iP p,(.sl true 1 1 λi_ j_=>[iD x].getD (i_*1+j_) (.v (.bool false)))] (bP (ml s t p x)):=
 ak call8 func8 (.w (3<s.iG)
  (λk1=>ae [tB 11 (bC k1)]<|.w (s.iG<=4)
   (λk2=>ae [tB 15 (bC k2)]<|rQ (bP true) (bP (ml s t p x)) (jL (by unfold ml pE;simp[k1,k2]<;>omega)))
   (λk2=>ae [tB 15 (bD k2)]<|.w (2<(s.params.length:Int))
    (λk3=>ae [tB 21 (bC k3)]<|rQ (bP true) (bP (ml s t p x)) (jL (by unfold ml pE;simp[k1,k2,k3]<;>omega)))
    (λk3=>ae [tB 21 (bD k3)]<|.w (40<(s.ig.length:Int))
     (λk4=>ae [tB 28 (bC k4)]<|rQ (bP true) (bP (ml s t p x)) (jL (by unfold ml pE;simp[k1,k2,k3,k4]<;>omega)))
     (λk4=>ae [tB 28 (bD k4)]<|.w (40<(t.ig.length:Int))
      (λk5=>ae [tB 34 (bC k5)]<|rQ (bP true) (bP (ml s t p x)) (jL (by unfold ml pE;simp[k1,k2,k3,k4,k5]<;>omega)))
      (λk5=>ae [tB 34 (bD k5)]<|.w (64<p)
       (λk6=>ae [tB 38 (bC k6)]<|.w (p<=512)
        (λk7=>ae [tB 41 (bC k7)]<|rQ (bP true) (bP (ml s t p x)) (jL (by unfold ml pE;simp[k1,k2,k3,k4,k5,k6,k7]<;>omega)))
        (λk7=>ae [tB 41 (bD k7),.c (Jx x s.params),ag [(.sl true 2 1 λi_ j_=>[iD x,iD s.params].getD (i_*1+j_) (.v (.bool false))),.fn 52 []] (JX s x)]<|rQ (bP (nd x||nd s.params)) (bP (ml s t p x)) (jL (by unfold ml pE;simp[k1,k2,k3,k4,k5,k6,k7]<;>omega))))
       (λk6=>ae [tB 38 (bD k6),.c (Jx x s.params),ag [(.sl true 2 1 λi_ j_=>[iD x,iD s.params].getD (i_*1+j_) (.v (.bool false))),.fn 52 []] (JX s x)]<|rQ (bP (nd x||nd s.params)) (bP (ml s t p x)) (jL (by unfold ml pE;simp[k1,k2,k3,k4,k5,k6]<;>omega))))))))
  (λk1=>ae [tB 11 (bD k1)]<|.w (2<(s.params.length:Int))
   (λk2=>ae [tB 21 (bC k2)]<|rQ (bP true) (bP (ml s t p x)) (jL (by unfold ml pE;simp[k1,k2]<;>omega)))
   (λk2=>ae [tB 21 (bD k2)]<|.w (40<(s.ig.length:Int))
    (λk3=>ae [tB 28 (bC k3)]<|rQ (bP true) (bP (ml s t p x)) (jL (by unfold ml pE;simp[k1,k2,k3]<;>omega)))
    (λk3=>ae [tB 28 (bD k3)]<|.w (40<(t.ig.length:Int))
     (λk4=>ae [tB 34 (bC k4)]<|rQ (bP true) (bP (ml s t p x)) (jL (by unfold ml pE;simp[k1,k2,k3,k4]<;>omega)))
     (λk4=>ae [tB 34 (bD k4)]<|.w (64<p)
      (λk5=>ae [tB 38 (bC k5)]<|.w (p<=512)
       (λk6=>ae [tB 41 (bC k6)]<|rQ (bP true) (bP (ml s t p x)) (jL (by unfold ml pE;simp[k1,k2,k3,k4,k5,k6]<;>omega)))
       (λk6=>ae [tB 41 (bD k6),.c (Jx x s.params),ag [(.sl true 2 1 λi_ j_=>[iD x,iD s.params].getD (i_*1+j_) (.v (.bool false))),.fn 52 []] (JX s x)]<|rQ (bP (nd x||nd s.params)) (bP (ml s t p x)) (jL (by unfold ml pE;simp[k1,k2,k3,k4,k5,k6]<;>omega))))
      (λk5=>ae [tB 38 (bD k5),.c (Jx x s.params),ag [(.sl true 2 1 λi_ j_=>[iD x,iD s.params].getD (i_*1+j_) (.v (.bool false))),.fn 52 []] (JX s x)]<|rQ (bP (nd x||nd s.params)) (bP (ml s t p x)) (jL (by unfold ml pE;simp[k1,k2,k3,k4,k5]<;>omega)))))))) 
def Jy(y z w:List RI):ie 51 [(.sl true 2 1 λi_ j_=>[(.sl true 2 1 λi_ j_=>[iD y,iD z].getD (i_*1+j_) (.v (.bool false))),(.sl true 1 1 λi_ j_=>[iD w].getD (i_*1+j_) (.v (.bool false)))].getD (i_*1+j_) (.v (.bool false)))] (.sl true 3 1 λi_ j_=>[iD y,iD z,iD w].getD (i_*1+j_) (.v (.bool false))):=
 ak call51 func51 (ae [.u 70,ah 12 (decide ((0:Int)<2)) aE,iX 0 2 aC,iF (0+2) aC,ai 20 (decide (((0+2):Int)<0)) aE,iF (0+1) aC,ah 12 (decide (((0+1):Int)<2)) aE,iX (0+1) 2 aC,iF ((0+2)+1) aC,ai 20 (decide ((((0+2)+1):Int)<0)) aE,iF ((0+1)+1) aC,ai 12 (decide ((((0+1)+1):Int)<2)) aE,.cn (Uk _ (by first|omega|decide):w8 129 [.v (.slice none 0 0),iP ((0+2)+1)] true 26 0 1 (λ_ _=>.any)),.u 70,ah 28 (decide ((0:Int)<2)) aE,iX 0 2 aC,.a (aC:(0+2)*24<=140737488355328),iF (0+1) aC,ah 28 (decide (((0+1):Int)<2)) aE,iX (0+1) 2 aC,.a (aC:(2+1)*24<=140737488355328),iF ((0+1)+1) aC,ai 28 (decide ((((0+1)+1):Int)<2)) aE,.z 24]<|rR (.sl true 3 1 λi_ j_=>[iD y,iD z,iD w].getD (i_*1+j_) (.v (.bool false))) (.sl λi j hi hj=>by obtain rfl:j=0:= aC;obtain rfl|rfl|rfl:i=0\/i=1\/i=2:= aC <;>exact⟨.ji rfl,rfl⟩:E.le (.sl true 3 1 (λi_ j_=>if i_<2 then(λi_ j_=>if i_<0 then(λ_ _=>.any) i_ j_ else(E.kY (.sl true 2 1 λi_ j_=>[iD y,iD z].getD (i_*1+j_) (.v (.bool false)))) (i_-0) j_) i_ j_ else(E.kY (.sl true 1 1 λi_ j_=>[iD w].getD (i_*1+j_) (.v (.bool false)))) (i_-2) j_)) (.sl true 3 1 λi_ j_=>[iD y,iD z,iD w].getD (i_*1+j_) (.v (.bool false))))) 
def pt(s t:jt)(p:Int)(y z:List RI):Bool:=pE s t p||(nd y||(nd z||nd s.params))
def JY(s:jt)(y z:List RI):ie 50 [(.sl true 3 1 λi_ j_=>[iD y,iD z,iD s.params].getD (i_*1+j_) (.v (.bool false))),.fn 52 []] (bP (nd y||(nd z||nd s.params))):=by
 have:=YZ true 3 (λi_ j_=>[iD y,iD z,iD s.params].getD (i_*1+j_) (.v (.bool false))) 52 [] (λi=>if i=0 then nd y else if i=1 then nd z else nd s.params) (λi hi=>by
  obtain rfl|rfl|rfl:i=0\/i=1\/i=2:= aC 
  .exact GI y
  .exact GI z
  .exact GI s.params) aC 
 exact this.kt (.ji (by rw[show List.range 3=[0,1,2]from rfl];simp))
def ago(s t:jt)(p:Int)(y z:List RI):ie 8 [kz s,kH t,iP p,(.sl true 2 1 λi_ j_=>[iD y,iD z].getD (i_*1+j_) (.v (.bool false)))] (bP (pt s t p y z)):=
 ak call8 func8 (.w (3<s.iG)
  (λk1=>ae [tB 11 (bC k1)]<|.w (s.iG<=4)
   (λk2=>ae [tB 15 (bC k2)]<|rQ (bP true) (bP (pt s t p y z)) (jL (by unfold pt pE;simp[k1,k2]<;>omega)))
   (λk2=>ae [tB 15 (bD k2)]<|.w (2<(s.params.length:Int))
    (λk3=>ae [tB 21 (bC k3)]<|rQ (bP true) (bP (pt s t p y z)) (jL (by unfold pt pE;simp[k1,k2,k3]<;>omega)))
    (λk3=>ae [tB 21 (bD k3)]<|.w (40<(s.ig.length:Int))
     (λk4=>ae [tB 28 (bC k4)]<|rQ (bP true) (bP (pt s t p y z)) (jL (by unfold pt pE;simp[k1,k2,k3,k4]<;>omega)))
     (λk4=>ae [tB 28 (bD k4)]<|.w (40<(t.ig.length:Int))
      (λk5=>ae [tB 34 (bC k5)]<|rQ (bP true) (bP (pt s t p y z)) (jL (by unfold pt pE;simp[k1,k2,k3,k4,k5]<;>omega)))
      (λk5=>ae [tB 34 (bD k5)]<|.w (64<p)
       (λk6=>ae [tB 38 (bC k6)]<|.w (p<=512)
        (λk7=>ae [tB 41 (bC k7)]<|rQ (bP true) (bP (pt s t p y z)) (jL (by unfold pt pE;simp[k1,k2,k3,k4,k5,k6,k7]<;>omega)))
        (λk7=>ae [tB 41 (bD k7),.c (Jy y z s.params),ag [(.sl true 3 1 λi_ j_=>[iD y,iD z,iD s.params].getD (i_*1+j_) (.v (.bool false))),.fn 52 []] (JY s y z)]<|rQ (bP (nd y||(nd z||nd s.params))) (bP (pt s t p y z)) (jL (by unfold pt pE;simp[k1,k2,k3,k4,k5,k6,k7]<;>omega))))
       (λk6=>ae [tB 38 (bD k6),.c (Jy y z s.params),ag [(.sl true 3 1 λi_ j_=>[iD y,iD z,iD s.params].getD (i_*1+j_) (.v (.bool false))),.fn 52 []] (JY s y z)]<|rQ (bP (nd y||(nd z||nd s.params))) (bP (pt s t p y z)) (jL (by unfold pt pE;simp[k1,k2,k3,k4,k5,k6]<;>omega))))))))
  (λk1=>ae [tB 11 (bD k1)]<|.w (2<(s.params.length:Int))
   (λk2=>ae [tB 21 (bC k2)]<|rQ (bP true) (bP (pt s t p y z)) (jL (by unfold pt pE;simp[k1,k2]<;>omega)))
   (λk2=>ae [tB 21 (bD k2)]<|.w (40<(s.ig.length:Int))
    (λk3=>ae [tB 28 (bC k3)]<|rQ (bP true) (bP (pt s t p y z)) (jL (by unfold pt pE;simp[k1,k2,k3]<;>omega)))
    (λk3=>ae [tB 28 (bD k3)]<|.w (40<(t.ig.length:Int))
     (λk4=>ae [tB 34 (bC k4)]<|rQ (bP true) (bP (pt s t p y z)) (jL (by unfold pt pE;simp[k1,k2,k3,k4]<;>omega)))
     (λk4=>ae [tB 34 (bD k4)]<|.w (64<p)
      (λk5=>ae [tB 38 (bC k5)]<|.w (p<=512)
       (λk6=>ae [tB 41 (bC k6)]<|rQ (bP true) (bP (pt s t p y z)) (jL (by unfold pt pE;simp[k1,k2,k3,k4,k5,k6]<;>omega)))
       (λk6=>ae [tB 41 (bD k6),.c (Jy y z s.params),ag [(.sl true 3 1 λi_ j_=>[iD y,iD z,iD s.params].getD (i_*1+j_) (.v (.bool false))),.fn 52 []] (JY s y z)]<|rQ (bP (nd y||(nd z||nd s.params))) (bP (pt s t p y z)) (jL (by unfold pt pE;simp[k1,k2,k3,k4,k5,k6]<;>omega))))
      (λk5=>ae [tB 38 (bD k5),.c (Jy y z s.params),ag [(.sl true 3 1 λi_ j_=>[iD y,iD z,iD s.params].getD (i_*1+j_) (.v (.bool false))),.fn 52 []] (JY s y z)]<|rQ (bP (nd y||(nd z||nd s.params))) (bP (pt s t p y z)) (jL (by unfold pt pE;simp[k1,k2,k3,k4,k5]<;>omega)))))))) 
def pB(s t:jt)(p:Int)(q:kN):Bool:=pt s t p q.y q.z||(C6 q.a||C6 q.b)
def amt(s t:jt)(p:Int)(q:kN):ie 15 [.agg [bP q.a.neg,ik q.a.L,iP q.a.e,bP q.b.neg,ik q.b.L,iP q.b.e,iD q.y,iD q.z],(.jh 5 λj_=>[iP s.iw,jK s.ig,jM s.iC,iP s.iG,iD s.params].getD j_ .any),(.jh 3 λj_=>[iP t.iw,jK t.ig,jM t.iC].getD j_ .any),(.jh 1 λj_=>[iP p].getD j_ .any)] (bP (pB s t p q)):=
 ak call15 func15 (ae [.c (ago s t p q.y q.z)]<|.w (pt s t p q.y q.z=true)
  (λk1=>ae [tB 14 k1]<|rQ (bP true) (bP (pB s t p q)) (jL a7))
  (λk1=>ae [tB 14 (bt k1),.c (TS q.a)]<|.w (C6 q.a=true)
   (λk2=>ae [tB 18 k2]<|rQ (bP true) (bP (pB s t p q)) (jL a7))
   (λk2=>ae [tB 18 (bt k2),.c (TS q.b)]<|rQ (bP (C6 q.b)) (bP (pB s t p q)) (jL a7)))) 
def amw(nl:Bool)(n:Nat)(el:Nat->Nat->E)(g:FuncId)(cap:List E)(p:Nat->Bool)(hp:∀ i,i<n->ie g ((.agg [el i 0,el i 1,el i 2,el i 3,el i 4,el i 5,el i 6,el i 7])::cap) (bP (p i)))(N:Nat)(hl:n<=1000000)(nJ:N<n)(jc:∀ i,i<N->p i=false)(hN:p N=true):ie 71 [.sl nl n 8 el,.fn g cap] (iP N):=
 an call71 func71 (af [.s (Sp.jT (ZK nl n N el g cap) 0 N aC (λi hi nP=>by
    exact iL (af [tT 9 ((i:Int)<n) aC,iX (i:Int) n aC,.c (hp i aC:ie g ((.agg [el i 0,el i 1,el i 2,el i 3,el i 4,el i 5,el i 6,el i 7])::cap) _),ai 16 (p i) (jc i aC),iF ((i:Int)+1) aC]) aF)
  (λhi=>by
    exact iL (af [tT 9 ((N:Int)<n) aC,iX (N:Int) n aC,.c (hp N aC:ie g ((.agg [el N 0,el N 1,el N 2,el N 3,el N 4,el N 5,el N 6,el N 7])::cap) _),ah 16 (p N) hN]) aF) aI:jS 2 Tryz.f71 (ZK nl n N el g cap 0) .ret ⟨19,false,[(4,.e (iP N))],[]⟩) .nil]) 
def amz(nl:Bool)(n:Nat)(el:Nat->Nat->E)(g:FuncId)(cap:List E)(p:Nat->Bool)(hp:∀ i,i<n->ie g ((.agg [el i 0,el i 1,el i 2,el i 3,el i 4,el i 5,el i 6,el i 7])::cap) (bP (p i)))(hl:n<=1000000)(jc:∀ i,i<n->p i=false):ie 71 [.sl nl n 8 el,.fn g cap] (iP (-1)):=
 an call71 func71 (af [.s (Sp.jT (ZJ nl n el g cap) 0 n aC (λi hi nP=>by
    exact iL (af [tT 9 ((i:Int)<n) aC,iX (i:Int) n aC,.c (hp i aC:ie g ((.agg [el i 0,el i 1,el i 2,el i 3,el i 4,el i 5,el i 6,el i 7])::cap) _),ai 16 (p i) (jc i aC),iF ((i:Int)+1) aC]) aF)
  (λhi=>by
    exact iL (af [tF 9 ((n:Int)<n) aC]) aF) aI:jS 2 Tryz.f71 (ZJ nl n el g cap 0) (.exit 0) ⟨19,false,[],[]⟩) .nil]) 
def amx(nl:Bool)(n:Nat)(el:Nat->Nat->E)(g:FuncId)(cap:List E)(p:Nat->Bool)(hp:∀ i,i<n->ie g ((.agg [el i 0,el i 1,el i 2,el i 3,el i 4,el i 5,el i 6,el i 7])::cap) (bP (p i)))(N:Nat)(hl:n<=1000000)(nJ:N<n)(jc:∀ i,i<N->p i=false)(hN:p N=true):ie 14 [.sl nl n 8 el,.fn g cap] (bP true):=
 an call14 func14 (af [ag [.sl nl n 8 el,.fn g cap] (amw nl n el g cap p hp N hl nJ jc hN),tT 8 (0<=(N:Int)) aC]) 
def amy(nl:Bool)(n:Nat)(el:Nat->Nat->E)(g:FuncId)(cap:List E)(p:Nat->Bool)(hp:∀ i,i<n->ie g ((.agg [el i 0,el i 1,el i 2,el i 3,el i 4,el i 5,el i 6,el i 7])::cap) (bP (p i)))(hl:n<=1000000)(jc:∀ i,i<n->p i=false):ie 14 [.sl nl n 8 el,.fn g cap] (bP false):=
 an call14 func14 (af [ag [.sl nl n 8 el,.fn g cap] (amz nl n el g cap p hp hl jc),ai 8 (decide ((0:Int)<=(-1))) aE]) 
def amv(nl:Bool)(n:Nat)(el:Nat->Nat->E)(g:FuncId)(cap:List E)(p:Nat->Bool)(hp:∀ i,i<n->ie g ((.agg [el i 0,el i 1,el i 2,el i 3,el i 4,el i 5,el i 6,el i 7])::cap) (bP (p i)))(hl:n<=1000000):ie 14 [.sl nl n 8 el,.fn g cap] (bP ((List.range n).any p)):=by
 by_cases h:∃ i,i<n/\p i=true
 .obtain ⟨N,h1,h2,h3⟩:∃ N,N<n/\p N=true/\∀ i,i<N->p i=false:=uO h;refine(amx nl n el g cap p hp N hl h1 h3 h2).kt (.ji ?_);rw[ep.2 ⟨N,b6.2 h1,h2⟩]
 .refine (amy nl n el g cap p hp hl λi hi=>by simpa using λq=>h ⟨i,hi,q⟩).kt (.ji ?_);rw[dg.2 λi hi q=>h ⟨i,b6.1 hi,q⟩]
def Bb(s t:jt)(p:Int)(l:List kN)(hl:l.length<=1000000):ie 14 [jR l,.fn 15 [(.jh 5 λj_=>[iP s.iw,jK s.ig,jM s.iC,iP s.iG,iD s.params].getD j_ .any),(.jh 3 λj_=>[iP t.iw,jK t.ig,jM t.iC].getD j_ .any),(.jh 1 λj_=>[iP p].getD j_ .any)]] (bP ((List.range l.length).any λi=>pB s t p (l.getD i iq))):=
 amv true l.length (λi j=>(Ec (l.getD i iq)).getD j .any) 15 [(.jh 5 λj_=>[iP s.iw,jK s.ig,jM s.iC,iP s.iG,iD s.params].getD j_ .any),(.jh 3 λj_=>[iP t.iw,jK t.ig,jM t.iC].getD j_ .any),(.jh 1 λj_=>[iP p].getD j_ .any)] (λi=>pB s t p (l.getD i iq)) (λi _=>amt s t p _) hl
def alS:ie 69 [iy pA,.agg au] (bP true):=(QH pA QJ).le (.cons (.refl _) (.cons (.agg aad) .nil)) (.refl _)
def aaW : ie 19 [.agg ([iP jU.sP,iP jU.kind,iP jU.dir]++iN jU.w++[iu jU.l]),iP 0] (bP true):=
 ak call19 func19 (af [ah 7 (jU.sP==0) rfl,ah 12 (jU.kind==0) rfl,ah 17 (jU.dir==0) rfl,ag [iy jU.w,.agg au] alS,ah 29 ((jU.l.length:Int)==0) rfl]) 
structure CM(c:q7):Prop where
 w:c.w.ix
 l:∀ i,i<c.l.length->(c.l.getD i il).ix
 len:c.l.length<=1000
def QK(c:q7)(hc:CM c):ie 13 [.agg ([iP c.sP,iP c.kind,iP c.dir]++iN c.w++[iu c.l]),.agg ([iP c.sP,iP c.kind,iP c.dir]++iN c.w++[iu c.l])] (bP true):=
 ak call13 func13 (af [ah 9 (c.sP==c.sP) aH,ah 15 (c.kind==c.kind) aH,ah 22 (c.dir==c.dir) aH,.c (QH c.w hc.w),.c (alR c.l hc.l hc.len)]) 
def Ty(a:List q7)(g:FuncId)(cap:List E)(h8:a.length<=1000)(hp:∀ i,i<a.length->ie g (.agg (oM (a.getD i jU)) :: .agg (oM (a.getD i jU))::cap) (bP true)):ie 25 [sD a,sD a,.fn g cap] (bP true):=
 an call25 func25 (af [ai 14 ((a.length:Int) != (a.length:Int)) (pf rfl),.s (Sp.jT (Tx a g cap) 0 a.length aC (λi hi nP=>by
    exact iL (af [tT 18 ((i:Int)<a.length) aC,iX (i:Int) (a.length) aC,iX (i:Int) (a.length) aC,.c (hp i aC:ie g ((.agg ([iP ((a.getD i jU).sP),iP ((a.getD i jU).kind),iP ((a.getD i jU).dir)]++iN ((a.getD i jU).w)++[iu ((a.getD i jU).l)]))::(.agg ([iP ((a.getD i jU).sP),iP ((a.getD i jU).kind),iP ((a.getD i jU).dir)]++iN ((a.getD i jU).w)++[iu ((a.getD i jU).l)]))::cap) _),
     iF ((i:Int)+1) aC]) aF)
  (λhi=>by
    exact iL (af [tF 18 ((a.length:Int)<a.length) aC]) aF) aI:jS 4 Tryz.f25 (Tx a g cap 0) (.exit 0) ⟨32,false,[],[]⟩) .nil]) 
def EN(e:Int):ie 18 [iP e,(.jh 1 λj_=>[iP e].getD j_ .any),(.jh 1 λj_=>[iP e].getD j_ .any),(.jh 1 λj_=>[.v (.slice none 0 0)].getD j_ .any),(.jh 11 λj_=>[iP jU.sP,iP jU.kind,iP jU.dir,bP jU.w.lo.neg,ik (ij jU.w.lo.m),iP jU.w.lo.e,bP jU.w.hi.neg,ik (ij jU.w.hi.m),iP jU.w.hi.e,bP jU.w.all,iu jU.l].getD j_ .any)] (bP true):=
 ak call18 func18 (af [ah 9 (e==e) aH,ah 13 (e==e) aH,ah 18 ((0:Int)==0) aE,ag [.agg ([iP jU.sP,iP jU.kind,iP jU.dir]++iN jU.w++[iu jU.l]),iP 0] aaW]) 
noncomputable def Ws(s t:jt)(x:List RI)(l:List kN)(dir:Int)(p:Nat)(N:Nat)(i:Nat):PS:=⟨153,true,[(16,.own 16),(95,.e (iP i)),(94,.e (iP l.length)),(93,.e (jR l)),(15,.ql 18 [.box 12,.box 14,.box 11,.box 13]),(14,.box 14 0),(13,.box 13 0),(12,.box 12 0),(11,.box 11 0),(9,.box 9 0),(7,.box 7 0),(6,.box 6 0),(5,.box 5 0),(3,.e (iP dir))],[(16,.row true 41 ((jr s.v t.t x l dir p i).length) 11 (mD (jr s.v t.t x l dir p i))),(14,.cells 42 [iP 14]),(13,.cells 41 ([iP jU.sP,iP jU.kind,iP jU.dir]++iN jU.w++[iu jU.l])),(12,.cells 42 [iP 14]),(11,.cells 53 [.v (.slice none 0 0)]),(9,.cells 3 [iP p]),(7,.cells 50 [iD x,jR l]),(6,.cells 25 [iP t.iw,jK t.ig,jM t.iC]),(5,.cells 28 [iP s.iw,jK s.ig,jM s.iC,iP s.iG,iD s.params])]⟩
noncomputable def Wt(s t:jt)(x:List RI)(l:List kN)(dir:Int)(p:Nat)(i:Nat):PS:=⟨153,true,[(16,.own 16),(95,.e (iP i)),(94,.e (iP l.length)),(93,.e (jR l)),(15,.ql 18 [.box 12,.box 14,.box 11,.box 13]),(14,.box 14 0),(13,.box 13 0),(12,.box 12 0),(11,.box 11 0),(9,.box 9 0),(7,.box 7 0),(6,.box 6 0),(5,.box 5 0),(3,.e (iP dir))],[(16,.row true 41 ((jr s.v t.t x l dir p i).length) 11 (mD (jr s.v t.t x l dir p i))),(14,.cells 42 [iP 7]),(13,.cells 41 ([iP jU.sP,iP jU.kind,iP jU.dir]++iN jU.w++[iu jU.l])),(12,.cells 42 [iP 0]),(11,.cells 53 [sD (jr s.v t.t x l dir p l.length)]),(9,.cells 3 [iP p]),(7,.cells 50 [iD x,jR l]),(6,.cells 25 [iP t.iw,jK t.ig,jM t.iC]),(5,.cells 28 [iP s.iw,jK s.ig,jM s.iC,iP s.iG,iD s.params])]⟩
noncomputable def Wu(s t:jt)(x:List RI)(l:List kN)(dir:Int)(p:Nat)(i:Nat):PS:=⟨153,true,[(16,.own 16),(95,.e (iP i)),(94,.e (iP l.length)),(93,.e (jR l)),(15,.ql 18 [.box 12,.box 14,.box 11,.box 13]),(14,.box 14 0),(13,.box 13 0),(12,.box 12 0),(11,.box 11 0),(9,.box 9 0),(7,.box 7 0),(6,.box 6 0),(5,.box 5 0),(3,.e (iP dir))],[(16,.row true 41 ((jr s.v t.t x l dir p i).length) 11 (mD (jr s.v t.t x l dir p i))),(14,.cells 42 [iP 0]),(13,.cells 41 ([iP (((jr s.v t.t x l dir p l.length).getD 0 jU).sP),iP (((jr s.v t.t x l dir p l.length).getD 0 jU).kind),iP (((jr s.v t.t x l dir p l.length).getD 0 jU).dir)]++iN (((jr s.v t.t x l dir p l.length).getD 0 jU).w)++[iu (((jr s.v t.t x l dir p l.length).getD 0 jU).l)])),(12,.cells 42 [iP 0]),(11,.cells 53 [sD (jr s.v t.t x l dir p l.length)]),(9,.cells 3 [iP p]),(7,.cells 50 [iD x,jR l]),(6,.cells 25 [iP t.iw,jK t.ig,jM t.iC]),(5,.cells 28 [iP s.iw,jK s.ig,jM s.iC,iP s.iG,iD s.params])]⟩
def afd(s t:jt)(x:List RI)(l:List kN)(dir p:Int)(h1:ml s t p x=true):ie 4 [kz s,kH t,.agg [iD x,jR l],iP dir,iP p] (bP true):=
 ak call4 func4 (af [.c yE,.c (yb s t p x),ah 29 (ml s t p x) h1]) 
def afe(s t:jt)(x:List RI)(l:List kN)(dir p:Int)(h1:ml s t p x=false)(h2:10<l.length):ie 4 [kz s,kH t,.agg [iD x,jR l],iP dir,iP p] (bP true):=
 ak call4 func4 (af [.c yE,.c (yb s t p x),ai 29 (ml s t p x) h1,tT 34 (10<(l.length:Int)) aC]) 
def aff(s t:jt)(x:List RI)(l:List kN)(dir p:Int)(h1:ml s t p x=false)(h2:l.length<=10)(h3:((List.range l.length).any λi=>pB s t p (l.getD i iq))=true):ie 4 [kz s,kH t,.agg [iD x,jR l],iP dir,iP p] (bP true):=
 ak call4 func4 (af [.c yE,.c (yb s t p x),ai 29 (ml s t p x) h1,tF 34 (10<(l.length:Int)) aC,ag [jR l,.fn 15 [(.jh 5 λj_=>[iP s.iw,jK s.ig,jM s.iC,iP s.iG,iD s.params].getD j_ .any),(.jh 3 λj_=>[iP t.iw,jK t.ig,jM t.iC].getD j_ .any),(.jh 1 λj_=>[iP p].getD j_ .any)]] (Bb s t p l aC),ah 40 ((List.range l.length).any λi=>pB s t p (l.getD i iq)) h3]) 
def afg(s:jt)(g:s.iW)(sm:s.pq)(t:jt)(gt:t.iW)(stm:t.ig.length<=1000)(x:List RI)(gx:∀ i,(x.getD i jC).iW)(jG:x.length<=1000)(l:List kN)(gl:∀ i,(l.getD i iq).iW)(kS:∀ i,(l.getD i iq).y.length<=1000/\(l.getD i iq).z.length<=1000)(lr:l.length<=1000)(dir p:Int)(h1:ml s t p x=false)(h2:l.length<=10)(h3:((List.range l.length).any λi=>pB s t p (l.getD i iq))=false)(h5:oB x l=false)(hF:ie 16 [kz s,kH t,.agg [iD x,jR l],iP dir,iP p] (.iE [.v (.slice none 0 0),iP 1]))(hC:ie 17 [kz s,kH t,.agg [iD x,jR l],iP dir,iP p] (.iE [.agg (oM jU),iP 1])):ie 4 [kz s,kH t,.agg [iD x,jR l],iP dir,iP p] (bP true):=
 ak call4 func4 (af [.c yE,.c (yb s t p x),ai 29 (ml s t p x) h1,tF 34 (10<(l.length:Int)) aC,ag [jR l,.fn 15 [(.jh 5 λj_=>[iP s.iw,jK s.ig,jM s.iC,iP s.iG,iD s.params].getD j_ .any),(.jh 3 λj_=>[iP t.iw,jK t.ig,jM t.iC].getD j_ .any),(.jh 1 λj_=>[iP p].getD j_ .any)]] (Bb s t p l aC),ai 40 ((List.range l.length).any λi=>pB s t p (l.getD i iq)) h3,ag [kz s,kH t,.agg [iD x,jR l],iP dir,iP p] hF,ag [kz s,kH t,.agg [iD x,jR l],iP dir,iP p] hC,ag [.agg [iD x,jR l]] (Co x gx jG l gl kS lr),ai 63 (oB x l) h5,.c (EN 1)]) 
def afh(s:jt)(g:s.iW)(sm:s.pq)(t:jt)(gt:t.iW)(stm:t.ig.length<=1000)(x:List RI)(gx:∀ i,(x.getD i jC).iW)(jG:x.length<=1000)(l:List kN)(gl:∀ i,(l.getD i iq).iW)(kS:∀ i,(l.getD i iq).y.length<=1000/\(l.getD i iq).z.length<=1000)(lr:l.length<=1000)(dir p:Int)(h1:ml s t p x=false)(h2:l.length<=10)(h3:((List.range l.length).any λi=>pB s t p (l.getD i iq))=false)(h5:oB x l=true)(h4:mT s t=false)(hF:ie 16 [kz s,kH t,.agg [iD x,jR l],iP dir,iP p] (.iE [.v (.slice none 0 0),iP 1]))(hC:ie 17 [kz s,kH t,.agg [iD x,jR l],iP dir,iP p] (.iE [.agg (oM jU),iP 1])):ie 4 [kz s,kH t,.agg [iD x,jR l],iP dir,iP p] (bP true):=
 ak call4 func4 (af [.c yE,.c (yb s t p x),ai 29 (ml s t p x) h1,tF 34 (10<(l.length:Int)) aC,ag [jR l,.fn 15 [(.jh 5 λj_=>[iP s.iw,jK s.ig,jM s.iC,iP s.iG,iD s.params].getD j_ .any),(.jh 3 λj_=>[iP t.iw,jK t.ig,jM t.iC].getD j_ .any),(.jh 1 λj_=>[iP p].getD j_ .any)]] (Bb s t p l aC),ai 40 ((List.range l.length).any λi=>pB s t p (l.getD i iq)) h3,ag [kz s,kH t,.agg [iD x,jR l],iP dir,iP p] hF,ag [kz s,kH t,.agg [iD x,jR l],iP dir,iP p] hC,ag [.agg [iD x,jR l]] (Co x gx jG l gl kS lr),ah 63 (oB x l) h5,.c (Dc s g sm t gt stm),ai 68 (mT s t) h4,.c (EN 1)]) 
def afi(s:jt)(g:s.iW)(sm:s.pq)(t:jt)(gt:t.iW)(stm:t.ig.length<=1000)(x:List RI)(gx:∀ i,(x.getD i jC).iW)(jG:x.length<=1000)(l:List kN)(gl:∀ i,(l.getD i iq).iW)(kS:∀ i,(l.getD i iq).y.length<=1000/\(l.getD i iq).z.length<=1000)(lr:l.length<=1000)(dir p:Int)(h1:ml s t p x=false)(h2:l.length<=10)(h3:((List.range l.length).any λi=>pB s t p (l.getD i iq))=false)(h5:oB x l=true)(h4:mT s t=true)(sV:(x.length:Int)≠s.iG)(hF:ie 16 [kz s,kH t,.agg [iD x,jR l],iP dir,iP p] (.iE [.v (.slice none 0 0),iP 1]))(hC:ie 17 [kz s,kH t,.agg [iD x,jR l],iP dir,iP p] (.iE [.agg (oM jU),iP 1])):ie 4 [kz s,kH t,.agg [iD x,jR l],iP dir,iP p] (bP true):=
 ak call4 func4 (af [.c yE,.c (yb s t p x),ai 29 (ml s t p x) h1,tF 34 (10<(l.length:Int)) aC,ag [jR l,.fn 15 [(.jh 5 λj_=>[iP s.iw,jK s.ig,jM s.iC,iP s.iG,iD s.params].getD j_ .any),(.jh 3 λj_=>[iP t.iw,jK t.ig,jM t.iC].getD j_ .any),(.jh 1 λj_=>[iP p].getD j_ .any)]] (Bb s t p l aC),ai 40 ((List.range l.length).any λi=>pB s t p (l.getD i iq)) h3,ag [kz s,kH t,.agg [iD x,jR l],iP dir,iP p] hF,ag [kz s,kH t,.agg [iD x,jR l],iP dir,iP p] hC,ag [.agg [iD x,jR l]] (Co x gx jG l gl kS lr),ah 63 (oB x l) h5,.c (Dc s g sm t gt stm),ah 68 (mT s t) h4,ah 77 ((x.length:Int) != s.iG) (by rw[bne_iff_ne];exact sV),.c (EN 1)]) 
def afj(s:jt)(g:s.iW)(sm:s.pq)(t:jt)(gt:t.iW)(stm:t.ig.length<=1000)(x:List RI)(gx:∀ i,(x.getD i jC).iW)(jG:x.length<=1000)(l:List kN)(gl:∀ i,(l.getD i iq).iW)(kS:∀ i,(l.getD i iq).y.length<=1000/\(l.getD i iq).z.length<=1000)(lr:l.length<=1000)(dir p:Int)(h1:ml s t p x=false)(h2:l.length<=10)(h3:((List.range l.length).any λi=>pB s t p (l.getD i iq))=false)(h5:oB x l=true)(h4:mT s t=true)(sV:(x.length:Int)=s.iG)(hr:rZ dir=0)(hF:ie 16 [kz s,kH t,.agg [iD x,jR l],iP dir,iP p] (.iE [.v (.slice none 0 0),iP 2]))(hC:ie 17 [kz s,kH t,.agg [iD x,jR l],iP dir,iP p] (.iE [.agg (oM jU),iP 2])):ie 4 [kz s,kH t,.agg [iD x,jR l],iP dir,iP p] (bP true):=
 ak call4 func4 (af [.c yE,.c (yb s t p x),ai 29 (ml s t p x) h1,tF 34 (10<(l.length:Int)) aC,ag [jR l,.fn 15 [(.jh 5 λj_=>[iP s.iw,jK s.ig,jM s.iC,iP s.iG,iD s.params].getD j_ .any),(.jh 3 λj_=>[iP t.iw,jK t.ig,jM t.iC].getD j_ .any),(.jh 1 λj_=>[iP p].getD j_ .any)]] (Bb s t p l aC),ai 40 ((List.range l.length).any λi=>pB s t p (l.getD i iq)) h3,ag [kz s,kH t,.agg [iD x,jR l],iP dir,iP p] hF,ag [kz s,kH t,.agg [iD x,jR l],iP dir,iP p] hC,ag [.agg [iD x,jR l]] (Co x gx jG l gl kS lr),ah 63 (oB x l) h5,.c (Dc s g sm t gt stm),ah 68 (mT s t) h4,ai 77 ((x.length:Int) != s.iG) (by simp[sV]),.c (ID dir),ah 84 ((rZ dir)==0) (by rw[hr];rfl),.c (EN 2)]) 
def afk(s:jt)(g:s.iW)(sm:s.pq)(t:jt)(gt:t.iW)(stm:t.ig.length<=1000)(x:List RI)(gx:∀ i,(x.getD i jC).iW)(jG:x.length<=1000)(l:List kN)(gl:∀ i,(l.getD i iq).iW)(kS:∀ i,(l.getD i iq).y.length<=1000/\(l.getD i iq).z.length<=1000)(lr:l.length<=1000)(dir p:Int)(h1:ml s t p x=false)(h2:l.length<=10)(h3:((List.range l.length).any λi=>pB s t p (l.getD i iq))=false)(h5:oB x l=true)(h4:mT s t=true)(sV:(x.length:Int)=s.iG)(hr:rZ dir≠0)(hp:nm p=false)(hF:ie 16 [kz s,kH t,.agg [iD x,jR l],iP dir,iP p] (.iE [.v (.slice none 0 0),iP 2]))(hC:ie 17 [kz s,kH t,.agg [iD x,jR l],iP dir,iP p] (.iE [.agg (oM jU),iP 2])):ie 4 [kz s,kH t,.agg [iD x,jR l],iP dir,iP p] (bP true):=
 ak call4 func4 (af [.c yE,.c (yb s t p x),ai 29 (ml s t p x) h1,tF 34 (10<(l.length:Int)) aC,ag [jR l,.fn 15 [(.jh 5 λj_=>[iP s.iw,jK s.ig,jM s.iC,iP s.iG,iD s.params].getD j_ .any),(.jh 3 λj_=>[iP t.iw,jK t.ig,jM t.iC].getD j_ .any),(.jh 1 λj_=>[iP p].getD j_ .any)]] (Bb s t p l aC),ai 40 ((List.range l.length).any λi=>pB s t p (l.getD i iq)) h3,ag [kz s,kH t,.agg [iD x,jR l],iP dir,iP p] hF,ag [kz s,kH t,.agg [iD x,jR l],iP dir,iP p] hC,ag [.agg [iD x,jR l]] (Co x gx jG l gl kS lr),ah 63 (oB x l) h5,.c (Dc s g sm t gt stm),ah 68 (mT s t) h4,ai 77 ((x.length:Int) != s.iG) (by simp[sV]),.c (ID dir),ai 84 ((rZ dir)==0) (by simp[hr]),.c (LC p),ai 87 (nm p) hp,.c (EN 2)]) 
def afs(s:jt)(g:s.iW)(sm:s.pq)(t:jt)(gt:t.iW)(stm:t.ig.length<=1000)(x:List RI)(gx:∀ i,(x.getD i jC).iW)(jG:x.length<=1000)(l:List kN)(gl:∀ i,(l.getD i iq).iW)(kS:∀ i,(l.getD i iq).y.length<=1000/\(l.getD i iq).z.length<=1000)(lr:l.length<=1000)(dir:Int)(p:Nat)(h1:ml s t (p:Int) x=false)(h2:l.length<=10)(h3:((List.range l.length).any λi=>pB s t (p:Int) (l.getD i iq))=false)(h5:oB x l=true)(h4:mT s t=true)(sV:(x.length:Int)=s.iG)(hr:rZ dir≠0)(hp:nm (p:Int)=true)(hF:ie 16 [kz s,kH t,.agg [iD x,jR l],iP dir,iP p] (.iE [.v (.slice none 0 0),iP 14]))(hC:ie 17 [kz s,kH t,.agg [iD x,jR l],iP dir,iP p] (.iE [.agg (oM jU),iP 14]))(yz:∀ i,i<l.length->ie 11 [kz s,kH t,iD (kK x l i),.agg (uS (l.getD i iq).a++uS (l.getD i iq).b++[iD (l.getD i iq).y,iD (l.getD i iq).z]),iP dir,iP (p:Int)] (FO (qM s.v t.t x l dir p i)))(N:Nat)(nJ:N<l.length)(wB:∀ i,i<N->∃ c,qM s.v t.t x l dir p i=some c)(hN:qM s.v t.t x l dir p N=none):ie 4 [kz s,kH t,.agg [iD x,jR l],iP dir,iP p] (bP true):=
 ak call4 func4 (af [.c yE,.c (yb s t (p:Int) x),ai 29 (ml s t (p:Int) x) h1,tF 34 (10<(l.length:Int)) aC,ag [jR l,.fn 15 [(.jh 5 λj_=>[iP s.iw,jK s.ig,jM s.iC,iP s.iG,iD s.params].getD j_ .any),(.jh 3 λj_=>[iP t.iw,jK t.ig,jM t.iC].getD j_ .any),(.jh 1 λj_=>[iP p].getD j_ .any)]] (Bb s t (p:Int) l aC),ai 40 ((List.range l.length).any λi=>pB s t (p:Int) (l.getD i iq)) h3,ag [kz s,kH t,.agg [iD x,jR l],iP dir,iP p] hF,ag [kz s,kH t,.agg [iD x,jR l],iP dir,iP p] hC,ag [.agg [iD x,jR l]] (Co x gx jG l gl kS lr),ah 63 (oB x l) h5,.c (Dc s g sm t gt stm),ah 68 (mT s t) h4,ai 77 ((x.length:Int) != s.iG) (by simp[sV]),.c (ID dir),ai 84 ((rZ dir)==0) (by simp[hr]),.c (LC (p:Int)),ah 87 (nm (p:Int)) hp,.y 16 16 true 41 11 (mD []),.s (Sp.jT (Ws s t x l dir p N) 0 N aC (λi hi nP=>by
    have xo:=xZ s.v t.t x l dir p i;obtain⟨c,hc⟩:=wB i aC;have hq:=yz i aC;rw[hc]at hq;by_cases hk:c.kind=1
    .exact iL (ae [tT 96 ((i:Int)<l.length) aC,iX (i:Int) (l.length) aC,.c (vX x l i aC aC),ag [kz s,kH t,iD (kK x l i),.agg [bP (((l.getD i iq).a).neg),ik (((l.getD i iq).a).L),iP (((l.getD i iq).a).e),bP (((l.getD i iq).b).neg),ik (((l.getD i iq).b).L),iP (((l.getD i iq).b).e),iD ((l.getD i iq).y),iD ((l.getD i iq).z)],iP dir,iP p] hq,ai 113 ((0:Int) != 0) aE,ai 121 (c.kind != 1) (by simp[hk]),iF ((i:Int)+1) aC]<|.e (af [.b 16 (y5 (EP hc hk) rfl rfl:Bx.le (.row true 41 ((jr s.v t.t x l dir p i).length) 11 (mD (jr s.v t.t x l dir p i))) (.row true 41 ((jr s.v t.t x l dir p (i+1)).length) 11 (mD (jr s.v t.t x l dir p (i+1)))))])) aF 
    .exact iL (ae [tT 96 ((i:Int)<l.length) aC,iX (i:Int) (l.length) aC,.c (vX x l i aC aC),ag [kz s,kH t,iD (kK x l i),.agg [bP (((l.getD i iq).a).neg),ik (((l.getD i iq).a).L),iP (((l.getD i iq).a).e),bP (((l.getD i iq).b).neg),ik (((l.getD i iq).b).L),iP (((l.getD i iq).b).e),iD ((l.getD i iq).y),iD ((l.getD i iq).z)],iP dir,iP p] hq,ai 113 ((0:Int) != 0) aE,ah 121 (c.kind != 1) (by simp[hk]),.a (aC:((jr s.v t.t x l dir p i).length+1)*136<=140737488355328),iF ((i:Int)+1) aC]<|.e (af [.b 16 (Gp rfl rfl rfl (EO hc hk) (λj hj=>by rcases j with _|_|_|_|_|_|_|_|_|_|_|j<;>first|rfl|omega):Bx.le (.row true 41 ((jr s.v t.t x l dir p i).length+1) 11 (λi_ j_=>if i_<(jr s.v t.t x l dir p i).length then(mD (jr s.v t.t x l dir p i)) i_ j_ else(E.kY (.sl true 1 11 λi_ j_=>[iP i,iP c.kind,iP c.dir,bP c.w.lo.neg,ik (ij c.w.lo.m),iP c.w.lo.e,bP c.w.hi.neg,ik (ij c.w.hi.m),iP c.w.hi.e,bP c.w.all,iu c.l].getD (i_*11+j_) (.v (.bool false)))) (i_-(jr s.v t.t x l dir p i).length) j_)) (.row true 41 ((jr s.v t.t x l dir p (i+1)).length) 11 (mD (jr s.v t.t x l dir p (i+1)))))])) aF)
  (λhi=>by
    have xo:=xZ s.v t.t x l dir p N;have hq:=yz N nJ;rw[hN]at hq;exact iL (af [tT 96 ((N:Int)<l.length) aC,iX (N:Int) (l.length) aC,.c (vX x l N aC aC),ag [kz s,kH t,iD (kK x l N),.agg [bP (((l.getD N iq).a).neg),ik (((l.getD N iq).a).L),iP (((l.getD N iq).a).e),bP (((l.getD N iq).b).neg),ik (((l.getD N iq).b).L),iP (((l.getD N iq).b).e),iD ((l.getD N iq).y),iD ((l.getD N iq).z)],iP dir,iP p] hq,ah 113 ((14:Int) != 0) aE,.c (EN 14)]) aF) aI:jS 14 Tryz.f4 (Ws s t x l dir p N 0) .ret ⟨153,true,[(10,.e (bP true))],[]⟩) (af [.b 16 (y5 rfl rfl rfl:Bx.le (.row true 41 0 11 (mD [])) (.row true 41 ((jr s.v t.t x l dir p 0).length) 11 (mD (jr s.v t.t x l dir p 0))))])]) 
def aft(s:jt)(g:s.iW)(sm:s.pq)(t:jt)(gt:t.iW)(stm:t.ig.length<=1000)(x:List RI)(gx:∀ i,(x.getD i jC).iW)(jG:x.length<=1000)(l:List kN)(gl:∀ i,(l.getD i iq).iW)(kS:∀ i,(l.getD i iq).y.length<=1000/\(l.getD i iq).z.length<=1000)(lr:l.length<=1000)(dir:Int)(p:Nat)(h1:ml s t (p:Int) x=false)(h2:l.length<=10)(h3:((List.range l.length).any λi=>pB s t (p:Int) (l.getD i iq))=false)(h5:oB x l=true)(h4:mT s t=true)(sV:(x.length:Int)=s.iG)(hr:rZ dir≠0)(hp:nm (p:Int)=true)(hF:ie 16 [kz s,kH t,.agg [iD x,jR l],iP dir,iP p] (.iE [sD (jr s.v t.t x l dir p l.length),iP 0]))(hC:ie 17 [kz s,kH t,.agg [iD x,jR l],iP dir,iP p] (.iE [.agg (oM jU),iP 7]))(yz:∀ i,i<l.length->ie 11 [kz s,kH t,iD (kK x l i),.agg (uS (l.getD i iq).a++uS (l.getD i iq).b++[iD (l.getD i iq).y,iD (l.getD i iq).z]),iP dir,iP (p:Int)] (FO (qM s.v t.t x l dir p i)))(wB:∀ i,i<l.length->∃ c,qM s.v t.t x l dir p i=some c)(mc:∀ i,i<(jr s.v t.t x l dir p l.length).length->CM ((jr s.v t.t x l dir p l.length).getD i jU))(hn:(jr s.v t.t x l dir p l.length).length=0):ie 4 [kz s,kH t,.agg [iD x,jR l],iP dir,iP p] (bP true):=by
 have hlN:=xZ s.v t.t x l dir p l.length;exact ak call4 func4 (af [.c yE,.c (yb s t (p:Int) x),ai 29 (ml s t (p:Int) x) h1,tF 34 (10<(l.length:Int)) aC,ag [jR l,.fn 15 [(.jh 5 λj_=>[iP s.iw,jK s.ig,jM s.iC,iP s.iG,iD s.params].getD j_ .any),(.jh 3 λj_=>[iP t.iw,jK t.ig,jM t.iC].getD j_ .any),(.jh 1 λj_=>[iP p].getD j_ .any)]] (Bb s t (p:Int) l aC),ai 40 ((List.range l.length).any λi=>pB s t (p:Int) (l.getD i iq)) h3,ag [kz s,kH t,.agg [iD x,jR l],iP dir,iP p] hF,ag [kz s,kH t,.agg [iD x,jR l],iP dir,iP p] hC,ag [.agg [iD x,jR l]] (Co x gx jG l gl kS lr),ah 63 (oB x l) h5,.c (Dc s g sm t gt stm),ah 68 (mT s t) h4,ai 77 ((x.length:Int) != s.iG) (by simp[sV]),.c (ID dir),ai 84 ((rZ dir)==0) (by simp[hr]),.c (LC (p:Int)),ah 87 (nm (p:Int)) hp,.y 16 16 true 41 11 (mD []),.s (Sp.jT (Wt s t x l dir p) 0 l.length aC (λi hi nP=>by
    have xo:=xZ s.v t.t x l dir p i;obtain⟨c,hc⟩:=wB i aC;have hq:=yz i aC;rw[hc]at hq;by_cases hk:c.kind=1
    .exact iL (ae [tT 96 ((i:Int)<l.length) aC,iX (i:Int) (l.length) aC,.c (vX x l i aC aC),ag [kz s,kH t,iD (kK x l i),.agg [bP (((l.getD i iq).a).neg),ik (((l.getD i iq).a).L),iP (((l.getD i iq).a).e),bP (((l.getD i iq).b).neg),ik (((l.getD i iq).b).L),iP (((l.getD i iq).b).e),iD ((l.getD i iq).y),iD ((l.getD i iq).z)],iP dir,iP p] hq,ai 113 ((0:Int) != 0) aE,ai 121 (c.kind != 1) (by simp[hk]),iF ((i:Int)+1) aC]<|.e (af [.b 16 (y5 (EP hc hk) rfl rfl:Bx.le (.row true 41 ((jr s.v t.t x l dir p i).length) 11 (mD (jr s.v t.t x l dir p i))) (.row true 41 ((jr s.v t.t x l dir p (i+1)).length) 11 (mD (jr s.v t.t x l dir p (i+1)))))])) aF 
    .exact iL (ae [tT 96 ((i:Int)<l.length) aC,iX (i:Int) (l.length) aC,.c (vX x l i aC aC),ag [kz s,kH t,iD (kK x l i),.agg [bP (((l.getD i iq).a).neg),ik (((l.getD i iq).a).L),iP (((l.getD i iq).a).e),bP (((l.getD i iq).b).neg),ik (((l.getD i iq).b).L),iP (((l.getD i iq).b).e),iD ((l.getD i iq).y),iD ((l.getD i iq).z)],iP dir,iP p] hq,ai 113 ((0:Int) != 0) aE,ah 121 (c.kind != 1) (by simp[hk]),.a (aC:((jr s.v t.t x l dir p i).length+1)*136<=140737488355328),iF ((i:Int)+1) aC]<|.e (af [.b 16 (Gp rfl rfl rfl (EO hc hk) (λj hj=>by rcases j with _|_|_|_|_|_|_|_|_|_|_|j<;>first|rfl|omega):Bx.le (.row true 41 ((jr s.v t.t x l dir p i).length+1) 11 (λi_ j_=>if i_<(jr s.v t.t x l dir p i).length then(mD (jr s.v t.t x l dir p i)) i_ j_ else(E.kY (.sl true 1 11 λi_ j_=>[iP i,iP c.kind,iP c.dir,bP c.w.lo.neg,ik (ij c.w.lo.m),iP c.w.lo.e,bP c.w.hi.neg,ik (ij c.w.hi.m),iP c.w.hi.e,bP c.w.all,iu c.l].getD (i_*11+j_) (.v (.bool false)))) (i_-(jr s.v t.t x l dir p i).length) j_)) (.row true 41 ((jr s.v t.t x l dir p (i+1)).length) 11 (mD (jr s.v t.t x l dir p (i+1)))))])) aF)
  (λhi=>by
    exact iL (ae [tF 96 ((l.length:Int)<l.length) aC,.z 16]<|.e (af [.o 16 (.e (.ji aV):aj (.sl true ((jr s.v t.t x l dir p l.length).length) 11 (mD (jr s.v t.t x l dir p l.length))) (sD (jr s.v t.t x l dir p l.length)))])) aF) aI:jS 14 Tryz.f4 (Wt s t x l dir p 0) (.exit 1) ⟨153,true,[(16,.e (sD (jr s.v t.t x l dir p l.length))),(14,.box 14 0),(13,.box 13 0),(12,.box 12 0),(11,.box 11 0)],[(14,.cells 42 [iP 7]),(13,.cells 41 ([iP jU.sP,iP jU.kind,iP jU.dir]++iN jU.w++[iu jU.l])),(12,.cells 42 [iP 0]),(11,.cells 53 [sD (jr s.v t.t x l dir p l.length)])]⟩) (af [.b 16 (y5 rfl rfl rfl:Bx.le (.row true 41 0 11 (mD [])) (.row true 41 ((jr s.v t.t x l dir p 0).length) 11 (mD (jr s.v t.t x l dir p 0))))]),ai 128 ((0:Int) != 0) aE,.c (Ty (jr s.v t.t x l dir p l.length) 13 [] aC (λi hi=>QK _ (mc i hi))),ah 137 (((jr s.v t.t x l dir p l.length).length:Int)==0) (bn aC),ah 139 ((7:Int)==7) aE,.c aaW]) 
def afu(s:jt)(g:s.iW)(sm:s.pq)(t:jt)(gt:t.iW)(stm:t.ig.length<=1000)(x:List RI)(gx:∀ i,(x.getD i jC).iW)(jG:x.length<=1000)(l:List kN)(gl:∀ i,(l.getD i iq).iW)(kS:∀ i,(l.getD i iq).y.length<=1000/\(l.getD i iq).z.length<=1000)(lr:l.length<=1000)(dir:Int)(p:Nat)(h1:ml s t (p:Int) x=false)(h2:l.length<=10)(h3:((List.range l.length).any λi=>pB s t (p:Int) (l.getD i iq))=false)(h5:oB x l=true)(h4:mT s t=true)(sV:(x.length:Int)=s.iG)(hr:rZ dir≠0)(hp:nm (p:Int)=true)(hF:ie 16 [kz s,kH t,.agg [iD x,jR l],iP dir,iP p] (.iE [sD (jr s.v t.t x l dir p l.length),iP 0]))(hC:ie 17 [kz s,kH t,.agg [iD x,jR l],iP dir,iP p] (.iE [.agg (oM ((jr s.v t.t x l dir p l.length).getD 0 jU)),iP 0]))(yz:∀ i,i<l.length->ie 11 [kz s,kH t,iD (kK x l i),.agg (uS (l.getD i iq).a++uS (l.getD i iq).b++[iD (l.getD i iq).y,iD (l.getD i iq).z]),iP dir,iP (p:Int)] (FO (qM s.v t.t x l dir p i)))(wB:∀ i,i<l.length->∃ c,qM s.v t.t x l dir p i=some c)(mc:∀ i,i<(jr s.v t.t x l dir p l.length).length->CM ((jr s.v t.t x l dir p l.length).getD i jU))(hn:0<(jr s.v t.t x l dir p l.length).length):ie 4 [kz s,kH t,.agg [iD x,jR l],iP dir,iP p] (bP true):=by
 have hlN:=xZ s.v t.t x l dir p l.length;exact ak call4 func4 (af [.c yE,.c (yb s t (p:Int) x),ai 29 (ml s t (p:Int) x) h1,tF 34 (10<(l.length:Int)) aC,ag [jR l,.fn 15 [(.jh 5 λj_=>[iP s.iw,jK s.ig,jM s.iC,iP s.iG,iD s.params].getD j_ .any),(.jh 3 λj_=>[iP t.iw,jK t.ig,jM t.iC].getD j_ .any),(.jh 1 λj_=>[iP p].getD j_ .any)]] (Bb s t (p:Int) l aC),ai 40 ((List.range l.length).any λi=>pB s t (p:Int) (l.getD i iq)) h3,ag [kz s,kH t,.agg [iD x,jR l],iP dir,iP p] hF,ag [kz s,kH t,.agg [iD x,jR l],iP dir,iP p] hC,ag [.agg [iD x,jR l]] (Co x gx jG l gl kS lr),ah 63 (oB x l) h5,.c (Dc s g sm t gt stm),ah 68 (mT s t) h4,ai 77 ((x.length:Int) != s.iG) (by simp[sV]),.c (ID dir),ai 84 ((rZ dir)==0) (by simp[hr]),.c (LC (p:Int)),ah 87 (nm (p:Int)) hp,.y 16 16 true 41 11 (mD []),.s (Sp.jT (Wu s t x l dir p) 0 l.length aC (λi hi nP=>by
    have xo:=xZ s.v t.t x l dir p i;obtain⟨c,hc⟩:=wB i aC;have hq:=yz i aC;rw[hc]at hq;by_cases hk:c.kind=1
    .exact iL (ae [tT 96 ((i:Int)<l.length) aC,iX (i:Int) (l.length) aC,.c (vX x l i aC aC),ag [kz s,kH t,iD (kK x l i),.agg [bP (((l.getD i iq).a).neg),ik (((l.getD i iq).a).L),iP (((l.getD i iq).a).e),bP (((l.getD i iq).b).neg),ik (((l.getD i iq).b).L),iP (((l.getD i iq).b).e),iD ((l.getD i iq).y),iD ((l.getD i iq).z)],iP dir,iP p] hq,ai 113 ((0:Int) != 0) aE,ai 121 (c.kind != 1) (by simp[hk]),iF ((i:Int)+1) aC]<|.e (af [.b 16 (y5 (EP hc hk) rfl rfl:Bx.le (.row true 41 ((jr s.v t.t x l dir p i).length) 11 (mD (jr s.v t.t x l dir p i))) (.row true 41 ((jr s.v t.t x l dir p (i+1)).length) 11 (mD (jr s.v t.t x l dir p (i+1)))))])) aF 
    .exact iL (ae [tT 96 ((i:Int)<l.length) aC,iX (i:Int) (l.length) aC,.c (vX x l i aC aC),ag [kz s,kH t,iD (kK x l i),.agg [bP (((l.getD i iq).a).neg),ik (((l.getD i iq).a).L),iP (((l.getD i iq).a).e),bP (((l.getD i iq).b).neg),ik (((l.getD i iq).b).L),iP (((l.getD i iq).b).e),iD ((l.getD i iq).y),iD ((l.getD i iq).z)],iP dir,iP p] hq,ai 113 ((0:Int) != 0) aE,ah 121 (c.kind != 1) (by simp[hk]),.a (aC:((jr s.v t.t x l dir p i).length+1)*136<=140737488355328),iF ((i:Int)+1) aC]<|.e (af [.b 16 (Gp rfl rfl rfl (EO hc hk) (λj hj=>by rcases j with _|_|_|_|_|_|_|_|_|_|_|j<;>first|rfl|omega):Bx.le (.row true 41 ((jr s.v t.t x l dir p i).length+1) 11 (λi_ j_=>if i_<(jr s.v t.t x l dir p i).length then(mD (jr s.v t.t x l dir p i)) i_ j_ else(E.kY (.sl true 1 11 λi_ j_=>[iP i,iP c.kind,iP c.dir,bP c.w.lo.neg,ik (ij c.w.lo.m),iP c.w.lo.e,bP c.w.hi.neg,ik (ij c.w.hi.m),iP c.w.hi.e,bP c.w.all,iu c.l].getD (i_*11+j_) (.v (.bool false)))) (i_-(jr s.v t.t x l dir p i).length) j_)) (.row true 41 ((jr s.v t.t x l dir p (i+1)).length) 11 (mD (jr s.v t.t x l dir p (i+1)))))])) aF)
  (λhi=>by
    exact iL (ae [tF 96 ((l.length:Int)<l.length) aC,.z 16]<|.e (af [.o 16 (.e (.ji aV):aj (.sl true ((jr s.v t.t x l dir p l.length).length) 11 (mD (jr s.v t.t x l dir p l.length))) (sD (jr s.v t.t x l dir p l.length)))])) aF) aI:jS 14 Tryz.f4 (Wu s t x l dir p 0) (.exit 1) ⟨153,true,[(16,.e (sD (jr s.v t.t x l dir p l.length))),(14,.box 14 0),(13,.box 13 0),(12,.box 12 0),(11,.box 11 0)],[(14,.cells 42 [iP 0]),(13,.cells 41 ([iP (((jr s.v t.t x l dir p l.length).getD 0 jU).sP),iP (((jr s.v t.t x l dir p l.length).getD 0 jU).kind),iP (((jr s.v t.t x l dir p l.length).getD 0 jU).dir)]++iN (((jr s.v t.t x l dir p l.length).getD 0 jU).w)++[iu (((jr s.v t.t x l dir p l.length).getD 0 jU).l)])),(12,.cells 42 [iP 0]),(11,.cells 53 [sD (jr s.v t.t x l dir p l.length)])]⟩) (af [.b 16 (y5 rfl rfl rfl:Bx.le (.row true 41 0 11 (mD [])) (.row true 41 ((jr s.v t.t x l dir p 0).length) 11 (mD (jr s.v t.t x l dir p 0))))]),ai 128 ((0:Int) != 0) aE,.c (Ty (jr s.v t.t x l dir p l.length) 13 [] aC (λi hi=>QK _ (mc i hi))),ai 137 (((jr s.v t.t x l dir p l.length).length:Int)==0) (bk aC),ah 145 ((0:Int)==0) aE,iX 0 ((jr s.v t.t x l dir p l.length).length) aC,ag [.agg ([iP (((jr s.v t.t x l dir p l.length).getD 0 jU).sP),iP (((jr s.v t.t x l dir p l.length).getD 0 jU).kind),iP (((jr s.v t.t x l dir p l.length).getD 0 jU).dir)]++iN (((jr s.v t.t x l dir p l.length).getD 0 jU).w)++[iu (((jr s.v t.t x l dir p l.length).getD 0 jU).l)]),.agg ([iP (((jr s.v t.t x l dir p l.length).getD 0 jU).sP),iP (((jr s.v t.t x l dir p l.length).getD 0 jU).kind),iP (((jr s.v t.t x l dir p l.length).getD 0 jU).dir)]++iN (((jr s.v t.t x l dir p l.length).getD 0 jU).w)++[iu (((jr s.v t.t x l dir p l.length).getD 0 jU).l)])] (QK _ (mc 0 aC))]) 
def NF{l:List RI}(h:nd l=false):l.length<=1000:=by
 have:=ae4 h;omega
def ams{s t:jt}{p:Int}{q:kN}(h:pB s t p q=false):q.y.length<=1000/\q.z.length<=1000:=by
 unfold pB pt at h;simp only[ek]at h;exact⟨NF h.1.2.1,NF h.1.2.2.1⟩
def afa(s:jt)(g:s.iW)(sm:s.pq)(t:jt)(gt:t.iW)(stm:t.ig.length<=1000)(x:List RI)(gx:∀ i,(x.getD i jC).iW)(jG:x.length<=1000)(l:List kN)(gl:∀ i,(l.getD i iq).iW)(kS:∀ i,(l.getD i iq).y.length<=1000/\(l.getD i iq).z.length<=1000)(lr:l.length<=1000)(dir p:Int)(hn:¬(mT s t=true/\oB x l=true/\(x.length:Int)=s.iG)):ie 16 [kz s,kH t,.agg [iD x,jR l],iP dir,iP p] (.iE [.v (.slice none 0 0),iP 1]):=by
 cases h1:mT s t with
 |false=>exact ae6 s g sm t gt stm x gx jG l gl kS lr dir p h1
 |true=>
  cases h2:oB x l with
  |false=>exact ae7 s g sm t gt stm x gx jG l gl kS lr dir p h1 h2
  |true=>exact ae8 s g sm t gt stm x gx jG l gl kS lr dir p h1 h2 λq=>hn ⟨h1,h2,q⟩
def al4{s:jN}{t:ki}{x:List Iv}{a b:Dy}{y z:List Iv}{dir:Int}{p:Nat}(h:mq s)(ht:oI s t)(hx:kE s.iG x)(hy:kE s.iG y)(iA:8<=p)(im:p<=512)(ha:a.ix)(hb:b.ix)(sX:jf a b<0){c:q7}(hc:IK s t x a b y z dir p=some c):CM c:=by
 unfold IK at hc;split at hc
 .split at hc
  .cases hc
  .rename_i q hq;cases hc;obtain⟨v1,v2,v3⟩:=am9 h ht hx hy iA im ha hb sX hq;exact⟨v1,v2,v3⟩
 .cases hc;exact⟨QJ,λi hi=>absurd hi (bG i),cj _⟩
def alY{s:jN}{t:ki}{x:List RI}{l:List kN}{dir:Int}{p:Nat}(h:mq s)(ht:oI s t)(iA:8<=p)(im:p<=512)(gx:∀ i,(x.getD i jC).iW)(jG:x.length=s.iG)(gl:∀ i,(l.getD i iq).iW){i:Nat}(hi:su x l i=true){c:q7}(hc:qM s t x l dir p i=some c):CM c:=by
 obtain⟨h1,h2,h3,h4,h5,h6,h7⟩:=wR hi;obtain⟨bz,by_,lzy⟩:=DB h6;obtain⟨bb,_,lby⟩:=DB h7;obtain⟨ga,gb,gy,gz⟩:=gl i;have gbf:∀ j,((kK x l i).getD j jC).iW:=by
  unfold kK;split
  .exact gx
  .exact (gl _).2.2.2
 obtain⟨_,_,nb,_⟩:=Ak gbf bb;obtain⟨_,_,ny,_⟩:=Ak gy by_;exact al4 h ht ⟨by rw[bZ,lby,h4,jG],nb⟩ ⟨by rw[bZ,h4,jG],ny⟩ iA im h1.valid h2.valid h3 hc
def T5{s:jN}{t:ki}{x:List RI}{l:List kN}{dir:Int}{p:Nat}:∀ n,(∀ i c,i<n->qM s t x l dir p i=some c->CM c)->∀ j,j<(jr s t x l dir p n).length->CM ((jr s t x l dir p n).getD j jU)
 | 0,_,j,hj=>absurd hj (bG j)
 |n+1,h,j,hj=>by
  have ih:=T5 n λi c hi hc=>h i c aC hc
  cases hq:qM s t x l dir p n with
  |none=>
   have e:jr s t x l dir p (n+1)=jr s t x l dir p n:=by
    show(match qM s t x l dir p n with|none=>_|some c=>_)=_;rw[hq]
   rw[e]at hj ⊢;exact ih j hj
  |some c=>
   by_cases hk:c.kind=1
   .rw [EP hq hk]at hj ⊢;exact ih j hj
   .rw [EO hq hk]at hj ⊢;have hc:=h n c aC hq;rw[cC,fm]at hj;rw[bE];by_cases hl:j<(jr s t x l dir p n).length
    .rw [dO hl,<-bE];exact ih j hl
    .obtain rfl:j=(jr s t x l dir p n).length:= aC ;rw[fK (bF _),dA];exact⟨hc.w,hc.l,hc.len⟩
def ah3(s t:jt)(x:List RI)(l:List kN)(dir p:Int)(g:s.iW)(gt:t.iW)(gx0:∀ w,w ∈ x->w.iW)(gl0:∀ q,q ∈ l->q.iW):ie 4 [kz s,kH t,Lx x l,iP dir,iP p] (bP true):=by
 have gx:=agn gx0;have gl:∀ i,(l.getD i iq).iW:=λi=>by
  rw[bE];by_cases h:i<l.length
  .rw [bJ h];exact gl0 _ (cK h)
  .rw [cz aC];exact⟨LB,LB,λi=>Ba,λi=>Ba⟩
 cases h1:ml s t p x with
 |true=>exact afd s t x l dir p h1
 |false=>
 by_cases h2:10<l.length
 .exact afe s t x l dir p h1 h2
 have h2:l.length<=10:= aC ;cases h3:((List.range l.length).any λi=>pB s t p (l.getD i iq))with
 |true=>exact aff s t x l dir p h1 h2 h3
 |false=>
 have Ox:=h1;unfold ml pE at Ox;simp only[ek,apP,decide_eq_false_iff_not]at Ox;obtain⟨⟨_,b2,b3,b4,_⟩,fx,_⟩:=Ox;have stm4:t.ig.length<=40:= aC ;have stm:t.ig.length<=1000:= aC ;have sm:s.pq:=⟨aC,aC⟩
 have jG:=NF fx;have lr:l.length<=1000:= aC ;have kS:∀ i,(l.getD i iq).y.length<=1000/\(l.getD i iq).z.length<=1000:=λi=>by
  by_cases h:i<l.length
  .have:=dg.1 h3 i (b6.2 h);exact ams (by simpa using this)
  .rw [bE,cz aC];exact⟨cj _,cj _⟩
 by_cases hn:mT s t=true/\oB x l=true/\(x.length:Int)=s.iG
 rotate_left
 .have hF:=afa s g sm t gt stm x gx jG l gl kS lr dir p hn;have hC:=T6 s t x l dir p 1 aE hF;cases h5:oB x l with
  |false=>exact afg s g sm t gt stm x gx jG l gl kS lr dir p h1 h2 h3 h5 hF hC
  |true=>
   cases h4:mT s t with
   |false=>exact afh s g sm t gt stm x gx jG l gl kS lr dir p h1 h2 h3 h5 h4 hF hC
   |true=>exact afi s g sm t gt stm x gx jG l gl kS lr dir p h1 h2 h3 h5 h4 (λq=>hn ⟨h4,h5,q⟩) hF hC
 obtain⟨h4,h5,sV⟩:=hn;cases hm:s5 dir p with
 |false=>
  have hF:=ae9 s g sm t gt stm x gx jG l gl kS lr dir p h4 h5 sV hm;have hC:=T6 s t x l dir p 2 aE hF;by_cases hr:rZ dir=0
  .exact afj s g sm t gt stm x gx jG l gl kS lr dir p h1 h2 h3 h5 h4 sV hr hF hC
  .refine afk s g sm t gt stm x gx jG l gl kS lr dir p h1 h2 h3 h5 h4 sV hr ?_ hF hC;have hd:dir=1\/dir=2:=by
    unfold rZ at hr;by_cases q1:dir=1
    .exact .inl q1
    .by_cases q2:dir=2
     .exact .inr q2
     .rw [bA q1,bA q2]at hr;exact absurd rfl hr
   unfold s5 at hm;rw[bC hd,di]at hm;have:=eI hm;unfold nm;rw[apP];simp;omega
 |true=>
 unfold s5 at hm;simp only[bQ,cL]at hm;obtain⟨hd,iA,im⟩:=hm;have hr:rZ dir≠0:=by unfold rZ;rcases hd with rfl|rfl<;>decide
 obtain⟨p,rfl⟩:=fU (aC:0<=p);have iA:8<=p:= aC ;have im:p<=512:= aC ;have hp:nm (p:Int)=true:=by unfold nm;simp;omega
 have c1:=h4;unfold mT at c1;simp only[bQ,cL]at c1;obtain⟨hs,ht,oQ,Fe⟩:=c1;obtain⟨o1,o2⟩:=alN g hs;obtain⟨q1,q2⟩:=alO ht;have J2:oI s.v t.t:=⟨q1,by show t.iw.toNat=s.iw.toNat;rw[oQ],by show(t.iC.map Int.toNat).length=1;rw[bZ];exact Fe⟩
 have Ky:x.length=s.v.iG:=by
  show x.length=s.iG.toNat
  omega
 have c2:=h5;unfold oB at c2;simp only[bQ,cL]at c2;obtain⟨h0,_,_,xm⟩:=c2;have jc:∀ i,i<l.length->su x l i=true:=λi hi=>bU.1 xm i (b6.2 hi)
 have Dp:=K8 x gx jG l gl kS lr;rw[h5]at Dp;have yz:∀ i,i<l.length->ie 11 [kz s,kH t,iD (kK x l i),.agg (uS (l.getD i iq).a++uS (l.getD i iq).b++[iD (l.getD i iq).y,iD (l.getD i iq).z]),iP dir,iP (p:Int)] (FO (qM s.v t.t x l dir p i)):=λi hi=>by
  have:=LF (dir:=dir) o1 J2 hd iA im gx Ky h0 gl (λj hj=>jc j aC) (jc i hi);rwa[<-o2,<-q2]at this
 by_cases hex:∀ i,i<l.length->∃ c,qM s.v t.t x l dir p i=some c
 .have mc:=T5 (s:=s.v) (t:=t.t) (x:=x) (l:=l) (dir:=dir) (p:=p) l.length λi c hi hc=>alY o1 J2 iA im gx Ky gl (jc i hi) hc
  have Dd:=afc s.v t.t x l dir p o1 J2 hd iA im gx Ky h0 gl lr Dp jc hex;have hN:=xZ s.v t.t x l dir p l.length;by_cases hz:(jr s.v t.t x l dir p l.length).length=0
  .have hC:=afw s.v t.t x l dir p _ Dd hz;have hF:=Dd;rw[<-o2,<-q2]at hF hC;exact aft s g sm t gt stm x gx jG l gl kS lr dir p h1 h2 h3 h5 h4 sV hr hp hF hC yz hex mc hz
  .have hC:=afx s.v t.t x l dir p _ Dd aC aC ;have hF:=Dd;rw[<-o2,<-q2]at hF hC;exact afu s g sm t gt stm x gx jG l gl kS lr dir p h1 h2 h3 h5 h4 sV hr hp hF hC yz hex mc aC 
 .obtain ⟨N,n1,n2,n3⟩:=Wv hex;have hN:qM s.v t.t x l dir p N=none:=by
   cases hq:qM s.v t.t x l dir p N with
   |none=>rfl
   |some c=>exact absurd ⟨c,hq⟩ n2
  have Dd:=afb s.v t.t x l dir p o1 J2 hd iA im gx Ky h0 gl lr Dp N n1 jc n3 hN;have hC:=afv s.v t.t x l dir p 14 aE Dd;have hF:=Dd;rw[<-o2,<-q2]at hF hC;exact afs s g sm t gt stm x gx jG l gl kS lr dir p h1 h2 h3 h5 h4 sV hr hp hF hC yz N n1 n3 hN
open Go.ChangeShapes Go.WideShapes Go.ChangeAt
def Rj(W:World)(q:List RI×List kN)(cs:List Value):Prop:=((∀ w,w ∈ q.1->w.iW)/\∀ g,g ∈ q.2->g.iW)/\∃ v w,cs=[v,w]/\iQ mo mo W (iD q.1) v/\iQ mo mo W (jR q.2) w
def al5{q:kN}(h:q.a.iW/\q.b.iW/\(∀ w,w ∈ q.y->w.iW)/\∀ w,w ∈ q.z->w.iW):q.iW:=⟨h.1,h.2.1,Da h.2.2.1 Ba,Da h.2.2.2 Ba⟩
section
variable {H:Type} {enc:TypeId×Value->H} {W:World} {fuel:Nat} {cs:List Value} {x:DataW H×List MemPlace}
def alJ(o:kN)(j:Nat)(hj:j<8):((Ec o).getD j .any).one=true/\(((Ec o).getD j .any).ng=true)/\((Ec o).getD j .any).nr 2=true:=by
 rcases j with _|_|_|_|_|_|_|_|j
 all_goals first|exact⟨rfl,rfl,rfl⟩|omega
def ajC(h:DataW.trod enc prog W 0 (λ_=>true) true fuel 48 cs=some x)(iK:∀ p ∈ x.2,p.block<W.heap.size):
  ∃ l v,cs=[v]/\(∀ y,y ∈ l->y.iW)/\iQ mo mo W (jR l) v:=by
 have hC:prog.cellsOf 33=8:= aF ;rcases Deep.open_slice underlying48 h with⟨rfl,_⟩|⟨a,len,cap,m,n,D,Pl,rfl,hb,hl,hm,sI,rfl,hx⟩
 .exact ⟨[],_,rfl,(λy hy=>by cases hy),.sl true 0 8 _ none 0 (λ_ _=>.bool false) (bF _) aE (λ_=>rfl) (λi j hi=>absurd hi (bG i)) (λi j hi=>absurd hi (bG i)) (λi j hi=>absurd hi (bG i)) (λi j hi=>absurd hi (bG i))⟩
 .simp only[bN]at sI;subst sI;have ex:∀ i,∃ y:kN,i<len->∃ cs',W.cells? 0 (a.add (i*8)) 8=some cs'/\Mn W y cs':=by
   intro i;by_cases hi:i<len
   .obtain ⟨cs',h1,h2⟩:=hx i aC ;rw[hC]at h1;obtain⟨y,hy⟩:=ajB h2 (λp hp=>iK p (List.mem_append_right _ (dt.2 ⟨i,b6.2 aC,hp⟩)));exact⟨y,λ_=>⟨cs',h1,hy⟩⟩
   .exact ⟨iq,λh=>absurd h hi⟩
  let X:Nat->kN:=λi=>Classical.choose (ex i)
  have hX:∀ i,i<len->∃ cs',W.cells? 0 (a.add (i*8)) 8=some cs'/\Mn W (X i) cs':=λi=>dj (ex i)
  have hlen:((List.range len).map X).length=len:= aH ;refine⟨(List.range len).map X,_,rfl,?_,?_⟩
  .intro y hy;obtain⟨i,hi,rfl⟩:=dz.1 hy;obtain⟨cs',_,h2⟩:=hX i (b6.1 hi);exact al5 h2.1
  .have Aw:∀ i,i<len->((List.range len).map X).getD i iq=X i:=by
    intro i hi;rw[bE,cG,gL hi];rfl
   have:=Lp (W:=W) (a:=a) (len:=len) (cap:=m) (nl:=true) (λi j=>(Ec (((List.range len).map X).getD i iq)).getD j .any) hl hm (show 0<8 by decide)
    (λi j _ hj=>let⟨h1,h2,h3⟩:=alJ (((List.range len).map X).getD i iq) j hj;⟨h1,λ_=>h2,h3⟩)
    (λi hi=>by
     obtain⟨cs',h1,h2,_,h3⟩:=hX i hi;exact⟨cs',h1,λj hj=>by rw[Aw i hi];exact h3 j hj⟩)
   unfold jR;rw[hlen];exact this
def ajw(h:DataW.trod enc prog W 0 (λ_=>true) true fuel 50 cs=some x)(iK:∀ p ∈ x.2,p.block<W.heap.size):∃ q,Rj W q cs:=by
 obtain⟨xs,n,rfl,rfl,hl,jG,hf⟩:=DataW.trod_struct underlying50 h;have hC:prog.cellsOf 50=2:= aF ;have hP:prog.cellsOf 26=1:= aF ;have hS:prog.cellsOf 48=1:= aF ;rw[hC]at hl;obtain⟨c0,c1,rfl⟩:=WK hl;have h0:=hf 0 _ rfl;have h1:=hf 1 _ rfl;simp only[eU,eV,dX]at h0 h1;simp only[hP,hS,eW,eX,eu,eZ]at h0 h1;rw[bJ (by rw[jG];decide)]at h0 h1;have hm:∀ (i:Nat) (hi:i<xs.length),∀ p ∈ (xs[i]).2,p.block<W.heap.size:=λi hi p hp=>iK p (dt.2 ⟨_,cK hi,hp⟩)
 obtain⟨y,u,e0,gy,ry⟩:=K2 h0 (hm _ _);obtain⟨l,w,e1,gl,rl⟩:=ajC h1 (hm _ _);simp at e0 e1;subst e0 e1;exact⟨⟨y,l⟩,⟨gy,gl⟩,_,_,rfl,ry,rl⟩
end
def ajY{W:World}{x:List RI×List kN}{cs:Array Value}(h:Rj W x cs.toList):iQ mo mo W (Lx x.1 x.2) (.agg cs):=by
 obtain⟨_,v,w,e,r1,r2⟩:=h;obtain⟨l⟩:=cs;have e:l=[v,w]:=e;subst e;exact iQ.agg (bs:=mo) (br:=mo) (w:=W) [iD x.1,jR x.2] [v,w] rfl λi p u h1 h2=>by
  rcases i with _|_|i
  .cases h1;cases h2;exact r1
  .cases h1;cases h2;exact r2
  .cases h1
def aeL:Value:=.agg #[.int .i64 0,.slice none 0 0,.slice none 0 0,.int .i64 0,.slice none 0 0]
def aeM{H:Type}:DataW H:=.agg [.agg [.lit (.int .i64 0),.nil,.nil],.lit (.int .i64 0),.nil]
def aeN:Value:=.agg #[.int .i64 0,.slice none 0 0,.slice none 0 0]
def aeO{H:Type}:DataW H:=.agg [.lit (.int .i64 0),.nil,.nil]
def aeJ:Value:=.agg #[.slice none 0 0,.slice none 0 0]
def aeK{H:Type}:DataW H:=.agg [.nil,.nil]
def C7:Array Value:=#[aeL,aeN,aeJ,.int .i64 0,.int .i64 0]
set_option maxRecDepth 100000 in
def afl(H:Type)(enc:TypeId×Value->H)(W:World)(base:Nat)(args:Array Value)(ds gs:List (DataW H))(before:List MemPlace)
 (lV:∀ (j:Nat) t v,Tryz.f4.params[j]? = some t->args[j]? = some v->Value.okWide prog W .any base t v)
 (hW:DataW.Whole enc prog Tryz.f4.params.toList Rows.crossFindsSpec.vars false W args.toList ds gs before) (hL:laidMetH prog Rows.crossFindsRow.laid W):
 Calls prog 4 args W λe W'=>∃ v,e = .returned v/\Rows.crossFindsSpec.post enc prog Tryz.f4 false true false false W args v W':=by
 have J7:=hW;obtain⟨p,q,wm,hV,rfl,hfz,hnd⟩:=hW;have hA:DataW.TrodAll enc prog W 0 (λ_=>true) true Tryz.f4.params.toList args.toList ds p:=wm;rw[Tryz.params4]at hA lV;obtain⟨v0,vs0,d0,ds0,p0,q0,Fh,rfl,rfl,h0,wm⟩:=trodAll_cons hA;obtain⟨v1,vs1,d1,ds1,p1,q1,rfl,rfl,rfl,h1,BR⟩:=trodAll_cons wm;obtain⟨v2,vs2,d2,ds2,p2,q2,rfl,rfl,rfl,h2,hA2⟩:=trodAll_cons BR;obtain⟨v3,vs3,d3,ds3,p3,q3,rfl,rfl,rfl,h3,hA3⟩:=trodAll_cons hA2;obtain⟨v4,vs4,d4,ds4,p4,q4,rfl,rfl,rfl,h4,hA4⟩:=trodAll_cons hA3;obtain⟨rfl,rfl,rfl⟩:=trodAll_nil hA4;obtain rfl:args = #[v0,v1,v2,v3,v4]:=by cases args;simp_all
 obtain⟨rfl,rfl⟩:=trodVars_none hV;obtain⟨cs0,rfl,apb⟩:=okWide_struct underlying28 (lV 0 28 v0 rfl rfl);obtain⟨cs1,rfl,apc⟩:=okWide_struct underlying25 (lV 1 25 v1 rfl rfl);obtain⟨cs2,rfl,apd⟩:=okWide_struct underlying50 (lV 2 50 v2 rfl rfl);obtain⟨x3,rfl,rfl,rfl,b3⟩:=open_int underlying3 (lV 3 3 v3 rfl rfl) h3;obtain⟨x4,rfl,rfl,rfl,b4⟩:=open_int underlying3 (lV 4 3 v4 rfl rfl) h4;have h0k:=h0;obtain⟨fuel0,hf0⟩:=h0;have h1k:=h1;obtain⟨fuel1,Oo⟩:=h1;have h2k:=h2;obtain⟨fuel2,Oq⟩:=h2;clear wm;have E5:∀ x ∈ p0,x.block<W.heap.size:=λx hx=>J7.lt x (by simp[hx])
 have E6:∀ x ∈ p1,x.block<W.heap.size:=λx hx=>J7.lt x (by simp[hx])
 have Kl:∀ x ∈ p2,x.block<W.heap.size:=λx hx=>J7.lt x (by simp[hx])
 obtain⟨x0,g0⟩:=ajD hf0 E5;obtain⟨x1,g1⟩:=ajE Oo E6;obtain⟨x2,g2⟩:=ajw Oq Kl;have lE:=(ah3 x0 x1 x2.1 x2.2 x3 x4 g0.1 g1.1 g2.1.1 g2.1.2).run W mo [.agg cs0,.agg cs1,.agg cs2,.int .i64 x3,.int .i64 x4] (anJ rfl hL) (λ_ h=>h.elim) (.cons (ans (cs:=cs0) g0) (.cons (anA (cs:=cs1) g1) (.cons (ajY (cs:=cs2) g2) (.cons (.v _) (.cons (.v _) (.nil _ _ _))))));refine lE.mono λr W' ⟨v,hr,hb,sK⟩=>?_
 obtain rfl:=iQ.kX sK;subst hr;refine⟨_,rfl,_,_,_,[],p0++(p1++(p2++([]++([])))),[],J7,?_,?_,rfl,hb.frame _,λh=>by cases h⟩
 .exact trodAll_mk1 (shut_bool underlying4 _)
 .exact ⟨p0,_,Below.trod Hr aF (cR aF) h0k hb E5,⟨p1,_,Below.trod Hr aF (cR aF) h1k hb E6,⟨p2,_,Below.trod Hr aF (cR aF) h2k hb Kl,⟨[],_,Below.trod Hr aF (cR aF) h3 hb (λ_ h=>by cases h),trodAll_mk1 (Below.trod Hr aF (cR aF) h4 hb (λ_ h=>by cases h)),rfl⟩,rfl⟩,rfl⟩,rfl⟩
def afo(os:Os):laidMet prog Rows.crossFindsRow.laid ((Pm os C7).forCall (λ_ _=>0) ⟨#[],C7,[]⟩).memory:=
 laidMet_of_run' 8 aF aF 
def afq(os:Os){H:Type}(enc:TypeId×Value->H):∃ places,DataW.whole enc prog ((Pm os C7).forCall (λ_ _=>0) ⟨#[],C7,[]⟩).memory Tryz.f4.params.toList Rows.crossFindsSpec.vars false C7.toList 8=some ([aeM,aeO,aeK,.lit (.int .i64 0),.lit (.int .i64 0)],[],places):=
 ⟨[],aF⟩
set_option maxRecDepth 100000 in
def afn(os:Os)(started:os.Started)(H:Type)(enc:TypeId×Value->H)(F:Stop.Interp):
  ReturnsInHanded {} Tryz.checked os 4 .any ((OpenSpec.ofChange Rows.crossFindsSpec).preRow enc prog Tryz.f4 Rows.crossFindsRow.domain false Rows.crossFindsRow.laid) (((OpenSpec.ofChange Rows.crossFindsSpec).at F).post enc prog Tryz.f4 false true false false):=by
 obtain⟨places,hx⟩:=afq os enc;refine returnsInHanded_of_row (C:=Tryz.checked) (s:=OpenSpec.ofChange Rows.crossFindsSpec) own started aF func4
  (witness_row_at (enc:=enc) (C:=Tryz.checked) false (Pm os C7) C7 rfl aF aF aF 
   (OpenSpec.preRow_of_cond 8 hx aF (λk hk=>by cases hk) aF (afo os))) ?_
 intro W base args ds gs before lV hW _ _ _ hL _ _;exact afl H enc W base args ds gs before lV hW hL
set_option maxHeartbeats 100000000 in
def afm:joinedFacts prog 4 Tryz.f4 (OpenSpec.ofChange Rows.crossFindsSpec).bare Rows.crossFindsRow=true:=by
 unfold joinedFacts;simp only[bQ]
 and_intros<;>decide +kernel
def afr:Rows.CrossFindsSaid:=
 OpenClaim.holds_of_cond 4 Tryz.f4 rfl rfl rfl rfl rfl rfl rfl ⟨rfl,rfl,rfl,rfl,rfl⟩ rfl rfl rfl rfl rfl aF func4 afm
  (cR aF) (by unfold Func.isWrapper;first|(rw[bB aL];kernel_rfl)|(rw[bA aL];exact⟨rfl,rfl⟩))
  (λos started H enc _ F=>by rw[OpenClaim.pre_eq_preRow];exact afn os started H enc F)
def afp (f:FuncId) (fn:Func) (hf:Tryz.pinned.checked.prog.funcNamed "flowpipe/flowpipelaw41.CrossFinds" = some f) (hfn:Tryz.pinned.checked.prog.funcs[f]? = some fn):
 false=Tryz.pinned.checked.prog.looks []/\∀ (j:Nat) t,fn.params[j]? = some t->Tryz.pinned.checked.prog.wantsStandIn t=false:=by
 obtain rfl:f=4:=apS ((show prog.funcNamed "flowpipe/flowpipelaw41.CrossFinds" = some 4 by kernel_rfl).symm.trans hf) |>.symm
 obtain rfl:fn=Tryz.f4:=(apS (func4.symm.trans hfn)).symm;refine⟨aF,λj t ht=>?_⟩;rw[Tryz.params4]at ht;have:t=28\/t=25\/t=50\/t=3:=by
  have:=eh ht;simp only[gY,dw,List.not_mem_nil,or_false]at this;rcases this with h|h|h|h|h<;>subst h<;>simp
 rcases this with rfl|rfl|rfl|rfl
 .exact (show prog.wantsStandIn 28=false by kernel_rfl)
 .exact (show prog.wantsStandIn 25=false by kernel_rfl)
 .exact (show prog.wantsStandIn 50=false by kernel_rfl)
 .exact (show prog.wantsStandIn 3=false by kernel_rfl)
theorem finds_card:Rows.CrossFindsCardSaid:=
 Claim7.holds_tied_plain_at .later [] _ _ _ _ afr (λ_ h=>by cases h) aF (λ_ h=>by cases h) crossFinds_row_tie rfl ⟨rfl,rfl⟩ aF rfl afp (agm afB rfl)
end Go.Proofs.YtgdahmmlddfimaaGreatDoor
