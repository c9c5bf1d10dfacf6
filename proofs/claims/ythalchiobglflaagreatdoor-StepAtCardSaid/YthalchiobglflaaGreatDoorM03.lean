/- Lemmas that the last file uses. -/
import Derived.Test.YthalchiobglflaaGreatDoorM02
import Derived.Deep.Slices
import Derived.Carry
import Derived.Scope
set_option linter.unusedSimpArgs false
set_option linter.unusedVariables false
set_option linter.defProp false
set_option maxHeartbeats 4000000
open Go.Proofs.Tryz
open Bool renaming true->aa,false->ac
open Option renaming some->al,none->am
open Go renaming World->ap,Value->av,FuncId->ax
open List renaming replicate->aA,range->be
open Go.World renaming setCell->aD
open Nat renaming beq->a2
namespace Go.Proofs.YthalchiobglflaaGreatDoor.Fp
section
variable(a b:Dy)
def jI:Dy:=if jQ b a<0 then b else a
def jz:Dy:=if 0<jQ b a then b else a
def Kd:jQ (jI a b) a<=0:=by
 unfold jI;split
 .omega
 .exact Cz a
def abp:jQ (jI a b) b<=0:=by
 unfold jI;split
 .exact Cz b
 .rcases anK a b with h|h
  .exact h
  .have x:jQ b a=0:= U ;obtain⟨k,y,z⟩:∃ k:Int,k<=a.e/\k<=b.e:=⟨min a.e b.e,U,U⟩
   rw[Gr (k:=k) (.inr z)<|.inr y]at x;rw[qd (.inr y)<|.inr z];unfold z8 at x;split at x
   .omega
   .split at x<;>omega
def AV:jQ a b = -jQ b a:=by
 obtain⟨k,h,x⟩:∃ k:Int,k<=a.e/\k<=b.e:=⟨min a.e b.e,U,U⟩
 rw[Gr (k:=k) (.inr h)<|.inr x,Gr (k:=k) (.inr x)<|.inr h];unfold z8;split<;>split<;>(try split)<;>omega
def Hf:jQ a (jz a b)<=0:=by
 unfold jz;split
 .rw [AV];omega
 .exact Cz a
def abm:jQ b (jz a b)<=0:=by
 unfold jz;split
 .exact Cz b
 .omega
end
section
variable{a b:Dy}(h:a.iE)(x:b.iE)
def rm:(jI a b).iE:=by unfold jI;split;exact x;exact h
def qx:(jz a b).iE:=by unfold jz;split;exact x;exact h
end
def nQ(D : Dy->Dy->Bool->Dy)(E : Dy->Dy->Bool->Int)(x y : Iv): Iv:=
 if(E x.lo y.lo ac=0/\E x.lo y.lo aa=0)/\(E x.lo y.hi ac=0/\E x.lo y.hi aa=0)/\(E x.hi y.lo ac=0/\E x.hi y.lo aa=0)/\(E x.hi y.hi ac=0/\E x.hi y.hi aa=0)then
  ⟨jI (jI (jI (D x.lo y.lo ac)<|D x.lo y.hi ac)<|D x.hi y.lo ac)<|D x.hi y.hi ac,
   jz (jz (jz (D x.lo y.lo aa)<|D x.lo y.hi aa)<|D x.hi y.lo aa) (D x.hi y.hi aa),ac⟩
 else L
def Yj{D E x y}(v:∀ a b up,(D a b up).iE)(l:E x.lo y.lo ac=0->E x.lo y.lo aa=0->jQ (D x.lo y.lo ac) (D x.lo y.lo aa)<=0):(nQ D E x y).iE:=by
 unfold nQ;split
 .rename_i h;refine .inr ⟨rfl,rm (rm (rm (v _ _ _)<|v _ _ _)<|v _ _ _)<|v _ _ _,qx (qx (qx (v _ _ _)<|v _ _ _)<|v _ _ _)<|v _ _ _,?_⟩;refine le_trans (Kd _ _)<|le_trans (Kd _ _)<|le_trans (Kd _ _)<|le_trans (l h.1.1 h.1.2) ?_;exact le_trans (Hf _ _)<|le_trans (Hf _ _)<|Hf _ _
 .exact np
def B(x y:Iv)(p:Nat):Iv:=
 if x.all||y.all then L else nQ (λa b u=>jZ (ml a b) p u) (λa b u=>kg (ml a b) p u) x y
def nZ x y{p}(h:1<=p)(i:p<=4096):(B x y p).iE:=by
 unfold B;split
 .exact np
 .exact Yj (λ_ _ _=>nV _ _ _ _ _ _ h i) λk z=>W7 _ _ _ _ _ k z
section
variable(a b:Dy)(p:Nat)
def lg(g:Nat):Nat:=p+g+H b.m-H a.m
def lK(up:Bool):Dy:=
 if a.m=0 then kq else kB (a.neg != b.neg) (a.m*2^lg a b p 2/b.m) (a.e-b.e-lg a b p 2) (decide (a.m*2^lg a b p 2%b.m≠0)) p up
def o9(up:Bool):Int:=
 if a.m=0 then 0 else ko (a.neg != b.neg) (a.m*2^lg a b p 2/b.m) (a.e-b.e-lg a b p 2) (decide (a.m*2^lg a b p 2%b.m≠0)) p up
end
section
variable{a b:Dy}(m:a.m≠0)(g:b.m≠0)
def Qa p g(y:2<=g):p<H (a.m*2^lg a b p g/b.m):=by
 have h:=uC m;have x:=qW b.m;have z:=oP m;have k:2^p<=a.m*2^lg a b p g/b.m:=by
  rw[dz U];refine bF (cR _<|dK x)<|bF ?_ (bX _ h);rw[<-bC,<-bC];exact bR aG<|by unfold lg;omega
 exact vC.2 k
def ajE p up:
 kB (a.neg != b.neg) (a.m*2^lg a b p 3/b.m) (a.e-lg a b p 3-b.e) (decide (a.m*2^lg a b p 3%b.m≠0)) p up=lK a b p up /\
 ko (a.neg != b.neg) (a.m*2^lg a b p 3/b.m) (a.e-lg a b p 3-b.e) (decide (a.m*2^lg a b p 3%b.m≠0)) p up=o9 a b p up:=by
 obtain⟨d,u⟩:∃ d,lg a b p 3=lg a b p 2+d:=⟨lg a b p 3-lg a b p 2,by unfold lg;omega⟩
 have v:=Qa m g p 2 aG;unfold lK o9;rw[bn m,bn m,u];generalize lg a b p 2=k at *
 have B:0<b.m:= U ;have P:=bG (n:=d) (aG:0<2);have e:a.m*2^(k+d)/b.m/2^d=a.m*2^k/b.m:=by
  rw[df,bC,<-bM,Nat.mul_div_mul_right _ _ P]
 have t:(decide (a.m*2^(k+d)%b.m≠0)||decide (a.m*2^(k+d)/b.m%2^d≠0))=decide (a.m*2^k%b.m≠0):=by
  have s:a.m*2^(k+d)%(b.m*2^d)=a.m*2^k%b.m*2^d:=by rw[bC,<-bM,Nat.mul_mod_mul_right]
  have x:a.m*2^(k+d)%(b.m*2^d)=a.m*2^(k+d)%b.m+b.m*(a.m*2^(k+d)/b.m%2^d):=il;rw[s]at x;rw[dW];simp only[eG,cK];constructor
  .intro h r;rw[r,cV]at x;rcases h with h|h
   .omega
   .have:=fO B<|eB h;omega
  .intro h;apply b8;intro z;have q:a.m*2^(k+d)%b.m=0:=by
    apply b8;intro y;exact z<|.inl y
   have l:a.m*2^(k+d)/b.m%2^d=0:=by
    apply b8;intro y;exact z<|.inr y
   rw[q,l,c9]at x;have:=fO (eB h) P;omega
 have h:=L8 (N:=a.m*2^(k+d)/b.m) (E:=a.e-((k+d:Nat):Int)-b.e) (more:=decide (a.m*2^(k+d)%b.m≠0)) (d:=d) (p:=p) (a.neg != b.neg) up (by rw[e];exact v);rw[e,t,(U:a.e-((k+d:Nat):Int)-b.e+(d:Int)=a.e-b.e-(k:Int))]at h;exact⟨h.1.symm,h.2.symm⟩
end
def nk(x:Iv):Int:=if x.all then 0 else if 0<x.lo.jh then 1 else if x.hi.jh<0 then -1 else 0
def jC(x y:Iv)(p:Nat):Iv:=
 if x.all||y.all||decide (nk y=0)then L else nQ (λa b u=>lK a b p u) (λa b u=>o9 a b p u) x y
def su x y{p}(u:1<=p:=by omega)(i:p<=4096:=by omega):(jC x y p).iE:=by
 unfold jC;split
 .exact np
 .refine Yj (λa b v=>?_) (λk z=>?_)
  .unfold lK;split
   .exact tY
   .exact nV _ _ _ _ _ _ u i
  .unfold lK o9 at *
   split
   .exact Cz _
   .rename_i h;rw[bn h]at k z;exact W7 _ _ _ _ _ k z
def mF(d:Dy):Dy:=⟨ac,d.m,d.e⟩
def uD{d}(h:d.iE):(mF d).iE:=by
 refine⟨?_,h.range⟩;rcases h.canon with⟨x,_,k⟩|x
 .exact .inl ⟨x,rfl,k⟩
 .exact .inr x
def agc d k:(mF d).num k=(d.kC k:Int):=by unfold Dy.num mF Dy.kC;simp
def nX(x:Iv):Dy:=jz (mF x.lo)<|mF x.hi
def pk(x:Iv):Dy:=if nk x=0 then kq else jI (mF x.lo) (mF x.hi)
def jG(x:Iv):Iv:=if x.all then L else⟨pk x,nX x,ac⟩
def lp(d:Dy):Iv:=⟨d,d,ac⟩
def vH{d}(h:d.iE):(lp d).iE:=.inr ⟨rfl,h,h,Cz d⟩
def Nz{x}(h:x.lo.iE)(k:x.hi.iE):(nX x).iE:=qx (uD h)<|uD k
def IC{x}(h:x.iE):(jG x).iE:=by
 unfold jG;rcases h with⟨h,_⟩|⟨h,y,z,_⟩
 .rw [h];exact np
 .rw [h];have v:=uD y;have u:=uD z;refine .inr ⟨rfl,?_,Nz y z,?_⟩
  .show (pk x).iE;unfold pk;split
   .exact tY
   .exact rm v u
  .show jQ (pk x) (nX x)<=0;unfold pk;split
   .refine le_trans (b:=mF x.lo) ?_ (Hf _ _);rw[qd (a:=kq) (b:=mF x.lo) (k:=x.lo.e) (.inl rfl)<|.inr<|cL _,zC rfl,agc];omega
   .exact le_trans (Kd _ _)<|Hf _ _
def jF(n:Int):Dy:=lV n 0
def kp(n:Int):Iv:=lp<|jF n
def asg(r:List Iv)(p:Nat):Option Dy:=
 r.foldl (λs x=>s.bind λs=>if x.all then am else if kg (jl s<|nX x) p aa≠0 then am else al (jZ (jl s<|nX x) p aa)) (al kq)
def apd(m:List<|List Iv)(p:Nat):Option Dy:=
 m.foldl (λs r=>s.bind λs=>(asg r p).map λn=>if 0<jQ n s then n else s) (al kq)
def acD(u:Iv)(p:Nat):Nat->Iv
 | 0=>kp 1
 |j+1=>B (acD u p j) (jC u (kp (j+1:Nat)) p) p
def kW(m:List<|List Iv)(h:Iv)(k p:Nat):Option Iv:=
 (apd m p).bind λn=>
  let u:=B (jG h) (lp n) p
  if u.all||decide (0<=jQ u.hi (jF (k+2:Nat)))then am
  else
   let e:=jC (acD u p<|k+1) (qy (kp 1) (jC u (kp (k+2:Nat)) p) p) p
   if e.all then am else al ⟨ji e.hi,e.hi,ac⟩
end Go.Proofs.YthalchiobglflaaGreatDoor.Fp
namespace Go.Proofs.YthalchiobglflaaGreatDoor
open Go.RowKit Fp Pu
def jv(x:Iv):List E:=[I x.lo.neg,F<|iy x.lo.m,D x.lo.e,I x.hi.neg,F<|iy x.hi.m,D x.hi.e,I x.all]
def O(x:Iv):E:=.agg<|jv x
def K(l:List Iv):E:=.sl aa l.length 7 λi j=>(jv<|l.getD i L).getD j .any
def kX(m:List<|List Iv):E:=.sl aa m.length 1 λi _=>K<|m.getD i []
def Cu(x y:Iv):Bool:=y.all||(!x.all&&(decide (jQ y.lo x.lo<=0)&&decide (jQ x.hi y.hi<=0)))
def D0:E.le (.v<|.slice am 0 0)<|F<|iy 0:=by
 have:F (iy 0) = .sl ac 0 1 λi _=>.v (.int .u32 (((iy 0).getD i 0:Nat):Int)):=by unfold F;rw[pj];rfl
 rw[this];exact .nil _ _ _
def Le:E.le (.agg [I ac,.v<|.slice am 0 0,D 0,I ac,.v<|.slice am 0 0,D 0,I aa])<|O L:=
 .agg (.cons (.refl _)<|.cons D0<|.cons (.refl _)<|.cons (.refl _)<|.cons D0<|.cons (.refl _)<|.cons (.refl _) .nil)
structure RD where
 neg:Bool
 L:List Nat
 e:Int
structure RI where
 lo:RD
 hi:RD
 all:Bool
def rdL(d:RD):List E:=[I d.neg,F d.L,D d.e]
def Ea(d:RD):E:=.agg<|rdL d
def AF(x:RI):List E:=[I x.lo.neg,F x.lo.L,D x.lo.e,I x.hi.neg,F x.hi.L,D x.hi.e,I x.all]
def mY(x:RI):E:=.agg<|AF x
def Ie:RD:=⟨ac,[],0⟩
def jT:RI:=⟨Ie,Ie,aa⟩
def jJ(l:List RI):E:=.sl aa l.length 7 λi j=>(AF<|l.getD i jT).getD j .any
structure RD.jA(d:RD):Prop where
 ok:je d.L
 lo:-9223372036854775808<=d.e
 hi:d.e<=9223372036854775807
structure RI.jA(x:RI):Prop where
 lo:x.lo.jA
 hi:x.hi.jA
def ad0:Ie.jA:=⟨je.nil,aG,aG⟩
def adZ:jT.jA:=⟨ad0,ad0⟩
def RD.dy(d:RD):Dy:=⟨d.neg,val d.L,d.e⟩
def RD.Ok(d:RD):Prop:=qT d.neg d.L d.e
def RD.Zero(d:RD):Prop:=d.neg=ac/\d.L=[]/\d.e=0
def RI.iv(x:RI):Iv:=⟨x.lo.dy,x.hi.dy,x.all⟩
def RI.Ok(x:RI):Prop:=(x.all=aa/\x.lo.Zero/\x.hi.Zero)\/(x.all=ac/\x.lo.Ok/\x.hi.Ok/\jQ x.lo.dy x.hi.dy<=0)
def Fp.Dy.raw(d:Dy):RD:=⟨d.neg,iy d.m,d.e⟩
def Fp.Iv.raw(x:Iv):RI:=⟨x.lo.raw,x.hi.raw,x.all⟩
def RD.Ok.valid{d:RD}(h:d.Ok):d.dy.iE:=h.2.2
def RD.Ok.eq{d:RD}(h:d.Ok)(g:d.jA):d.dy.raw=d:=by
 have⟨n,L,e⟩:=d;show RD.mk n (iy<|val L) e=_;rw[<-qT.I5 h g.ok]
def RD.Zero.eq{d:RD}(h:d.Zero):d.dy=kq/\d.dy.raw=d:=by
 have⟨n,L,e⟩:=d;obtain⟨rfl,rfl,rfl⟩:=h;refine⟨rfl,?_⟩;show RD.mk ac (iy 0) 0=_;rw[pj]
def RI.Ok.valid{x:RI}(h:x.Ok):x.iv.iE:=by
 rcases h with⟨k,y,z⟩|⟨k,y,z,u⟩
 .exact .inl ⟨k,y.eq.1,z.eq.1⟩
 .exact .inr ⟨k,y.valid,z.valid,u⟩
def RI.Ok.eq{x:RI}(h:x.Ok)(g:x.jA):x.iv.raw=x:=by
 have⟨l,i,a⟩:=x;rcases h with⟨z,k,y⟩|⟨z,k,y,u⟩
 .show RI.mk l.dy.raw i.dy.raw a=_;rw[k.eq.2,y.eq.2]
 .show RI.mk l.dy.raw i.dy.raw a=_;rw[k.eq g.lo,y.eq g.hi]
def ajU d:Ea d.raw=iJ d:=rfl
def JX x:mY x.raw=O x:=rfl
def Fp.Iv.iE.kN{x:Iv}(h:x.iE):x.lo.iE/\x.hi.iE:=by
 rcases h with⟨_,k,y⟩|⟨_,k,y,_⟩
 .rw [k,y];exact⟨tY,tY⟩
 .exact ⟨k,y⟩
def avk:L.raw=jT:=by
 show RI.mk kq.raw kq.raw aa=RI.mk Ie Ie aa;have:kq.raw=Ie:=by show RD.mk ac (iy 0) 0=_;rw[pj];rfl
 rw[this]
section
variable(l:List Iv)
def FN:List RI:=l.map Iv.raw
def ale i:(FN l).getD i jT=(l.getD i L).raw:=by
 unfold FN;rw[bB,bB,cQ];cases l[i]? with
 |none=>exact avk.symm
 |some x=>rfl
def So:jJ (FN l)=K l:=by
 unfold jJ K;rw[show(FN l).length=l.length by simp[FN]];congr 1;funext i j;rw[ale];rfl
end
section
variable(d:RD)(g:d.jA)(b:Bool)(a:b=aa↔d.Ok)
def Gx:iB 67 [Ea d]<|I b:=by
 refine⟨call67,λw B v K x r=>?_⟩;obtain⟨k,v,rfl,y,r⟩:=r.nm;obtain rfl:=r.sj;obtain⟨u,rfl,q⟩:=z.Eu<|show z _ _ w (.agg _) k from y;obtain⟨m,u,rfl,i,q⟩:=q.nm;obtain⟨l,u,rfl,t,q⟩:=q.nm;obtain⟨f,u,rfl,s,q⟩:=q.nm;obtain rfl:=q.sj;obtain rfl:=z.lr i;obtain rfl:=z.lr s;obtain⟨A,c,rfl,p⟩:=yr g.ok t;exact(EH d.neg A c d.L d.e w b p g.lo g.hi a).mono λe n h=>rv B w e n x h
def TR:iB 84 [Ea d]<|I b:=by
 refine⟨call84,λw B v K x r=>?_⟩;obtain⟨k,v,rfl,y,r⟩:=r.nm;obtain rfl:=r.sj;obtain⟨u,rfl,q⟩:=z.Eu<|show z _ _ w (.agg _) k from y;obtain⟨m,u,rfl,i,q⟩:=q.nm;obtain⟨l,u,rfl,t,q⟩:=q.nm;obtain⟨f,u,rfl,s,q⟩:=q.nm;obtain rfl:=q.sj;obtain rfl:=z.lr i;obtain rfl:=z.lr s;obtain⟨A,c,rfl,p⟩:=yr g.ok t;exact(Oh d.neg A c d.L d.e w b p g.lo g.hi a).mono λe n h=>rv B w e n x h
end
def zw{a b:Nat}(h:a=b:=by omega):((a:Int) != (b:Int))=ac:=by simp[h]
def SU{a b:Nat}(h:a=b):((a:Int)==b)=aa:=by simp[h]
open Classical in
noncomputable def og(x:RI):Bool:=decide x.Ok
def ux{x}:og x=aa↔x.Ok:=by unfold og;simp
open Classical in
open Go.ChangeShapes Go.WideShapes Go.ChangeAt
abbrev uw:Nat->Prop:=λ_=>False
abbrev ud:Nat->Nat->Prop:=λ_ _=>False
def aiF{W:ap}{a v}(h:W.cell? a=al v):a.spot=am:=by
 have⟨b,o,s⟩:=a;rcases s with _|q
 .rfl
 .exfalso;unfold World.cell? at h;split at h<;>simp at h
def TS{W a len cap sz nl}el(l:len<=cap)(m:cap<=maxLen)(F:0<sz)(u:∀ i j,i<len->j<sz->(el i j).one=aa/\(nl=aa->(el i j).nT=aa)/\(el i j).nr 2=aa)(r:∀ i,i<len->∃ cs,W.cells? 0 (a.add<|i*sz) sz=al cs/\∀ j,j<sz->∃ v,cs[j]? = al v/\z ud uw W (el i j) v):
 z ud uw W (.sl nl len sz el) (.slice (al a) len cap):=by
 have Z:cap<=9223372036854775807:=by simpa[maxLen]using m
 have c:∀ i j,i<len->j<sz->∃ v,W.cell? (a.add<|i*sz+j)=al v/\z ud uw W (el i j) v:=by
  intro i j x k;have⟨cs,y,t⟩:=r i x;have⟨v,p,n⟩:=t j k;refine⟨v,?_,n⟩;rw[<-Deep.add_add,(World.cells?_some y).2.2 j k,p]
 by_cases g:len=0
 .subst g;exact .sl nl 0 sz el _ cap (λ_ _=>.bool ac) U Z (λh=>by cases h) (λi j x=>absurd x U) (λi j x=>absurd x U) (λi j x=>absurd x U) λi j x=>absurd x U
 .have⟨b,o,s⟩:=a;have d:s=am:=by
   have⟨v,y,_⟩:=c 0 0 U F;rw[cV,ct,show(⟨b,o,s⟩:Addr).add 0=⟨b,o,s⟩from rfl]at y;exact aiF y
  subst d;have e:∀ i j,∃ v:av,i<len->j<sz->W.cell? ⟨b,o+(i*sz+j),am⟩=al v/\z ud uw W (el i j) v:=by
   intro i j;by_cases x:i<len
   .by_cases k:j<sz
    .have⟨v,y,t⟩:=c i j x k;rw[Et]at y;exact⟨v,λ_ _=>⟨y,t⟩⟩
    .exact ⟨.bool ac,λ_ h=>absurd h k⟩
   .exact ⟨.bool ac,λh=>absurd h x⟩
  let f:Nat->Nat->av:=λi j=>Classical.choose<|e i j
  have w:∀ i j,i<len->j<sz->W.cell? ⟨b,o+(i*sz+j),am⟩=al (f i j)/\z ud uw W (el i j) (f i j):=λi j=>du<|e i j
  refine .sl nl len sz el _ cap f l Z (λh=>by cases h) (λi j x k=>?_) (λi j x k=>(u i j x k).2.2) (λi j x k=>?_) λi j x k=>(w i j x k).2
  .exact ⟨(w i j x k).2.one (u i j x k).1,λq=>(w i j x k).2.nT<|(u i j x k).2.1 q⟩
  .exact ⟨b,o,rfl,id,block_lt_of_cell (w i j x k).1,(w i j x k).1⟩
def af3(W:ap)(d:RD)(cs:List av):Prop:=d.jA/\cs.length=3/\∀ j,j<3->∃ v,cs[j]? = al v/\z ud uw W ((rdL d).getD j .any) v
def Ln(W:ap)(x:RI)(cs:List av):Prop:=x.jA/\cs.length=7/\∀ j,j<7->∃ v,cs[j]? = al v/\z ud uw W ((AF x).getD j .any) v
section
variable {H:Type} {enc:TypeId×av->H} {W:ap} {T:Nat} {cs:List av} {x:DataW H×List MemPlace}
def acq(h:DataW.trod enc prog W 0 (λ_=>aa) aa T 31 cs=al x)(i:∀ p ∈ x.2,p.block<W.heap.size):∃ d,af3 W d cs:=by
 obtain⟨s,A,L,c,e,rfl,t,k,y⟩:=apG h i;refine⟨⟨s,L,e⟩,⟨t.ok,k,y⟩,rfl,λj z=>?_⟩;rcases j with _|_|_|j
 .exact ⟨_,rfl,.v _⟩
 .exact ⟨_,rfl,BK (w:=W) (λ_ _ h=>h.elim) (.refl _) t⟩
 .exact ⟨_,rfl,.v _⟩
 .omega
def acr(h:DataW.trod enc prog W 0 (λ_=>aa) aa T 33 cs=al x)(i:∀ p ∈ x.2,p.block<W.heap.size):∃ d,Ln W d cs:=by
 obtain⟨q,n,rfl,rfl,l,Q,f⟩:=DataW.trod_struct underlying33 h;have C:prog.cellsOf 33=7:= aI ;have D:prog.cellsOf 31=3:= aI ;have B:prog.cellsOf 4=1:= aI ;rw[C]at l;obtain⟨c,m,b,w,X,Y,Z,rfl⟩:=an8 l;have k:=f 0 _ rfl;have y:=f 1 _ rfl;have z:=f 2 _ rfl;simp only[fW,fX,eV]at k y z;simp only[D,B,fY,fZ,fo,gh]at k y z;rw[bH<|by rw[Q];decide]at k y z;have⟨o,g,_,u⟩:=acq k λp v=>i p<|eZ.2 ⟨_,cT _,v⟩;have⟨s,r,_,t⟩:=acq y λp v=>i p<|eZ.2 ⟨_,cT _,v⟩;have⟨a,e,_⟩:=DataW.trod_bool underlying4 z;simp at e;subst e;refine⟨⟨o,s,a⟩,⟨g,r⟩,rfl,λj U=>?_⟩;rcases j with _|_|_|_|_|_|_|j
 .exact u 0 aG 
 .exact u 1 aG 
 .exact u 2 aG 
 .exact t 0 aG 
 .exact t 1 aG 
 .exact t 2 aG 
 .exact ⟨_,rfl,.v _⟩
 .omega
def ar4 x j(h:j<7):((AF x).getD j .any).one=aa/\(((AF x).getD j .any).nT=aa)/\((AF x).getD j .any).nr 2=aa:=by
 rcases j with _|_|_|_|_|_|_|j
 all_goals first|exact⟨rfl,rfl,rfl⟩|omega
def ar5{x cs}(h:Ln W x cs.toList):z ud uw W (mY x)<|.agg cs:=by
 have⟨_,l,h⟩:=h;have:=z.agg (bs:=ud) (br:=uw) (w:=W) (AF x) cs.toList (by rw[l];rfl) (λi p v u k=>by
  have t:i<7:=by have:=(cF.1 k).1;omega
  have⟨s,y,r⟩:=h i t;rw[k]at y;cases y;rw[bB,u]at r;exact r)
 unfold mY;simpa using this
def Tj(h:DataW.trod enc prog W 0 (λ_=>aa) aa T 26 cs=al x)(V:∀ p ∈ x.2,p.block<W.heap.size):
  ∃ l v,cs=[v]/\(∀ y,y ∈ l->y.jA)/\z ud uw W (jJ l) v:=by
 have C:prog.cellsOf 33=7:= aI ;rcases Deep.open_slice underlying26 h with⟨rfl,_⟩|⟨a,e,r,m,n,D,P,rfl,S,o,w,f,rfl,Y⟩
 .exact ⟨[],_,rfl,(λy t=>by cases t),.sl aa 0 7 _ am 0 (λ_ _=>.bool ac) (bA _) aG (λ_=>rfl) (λi j k=>absurd k<|bD i) (λi j k=>absurd k<|bD i) (λi j k=>absurd k<|bD i) λi j k=>absurd k<|bD i⟩
 .simp only[bK]at f;subst f;have d:∀ i,∃ y:RI,i<e->∃ c,W.cells? 0 (a.add<|i*7) 7=al c/\Ln W y c:=by
   intro i;by_cases k:i<e
   .have⟨c,Q,u⟩:=Y i U ;rw[C]at Q;have⟨y,t⟩:=acr u λp Z=>V p<|List.mem_append_right _<|eZ.2 ⟨i,ca.2 U,Z⟩;exact⟨y,λ_=>⟨c,Q,t⟩⟩
   .exact ⟨jT,λh=>absurd h k⟩
  let X:Nat->RI:=λi=>Classical.choose<|d i
  have b:∀ i,i<e->∃ c,W.cells? 0 (a.add<|i*7) 7=al c/\Ln W (X i) c:=λi=>du<|d i
  have s:((be e).map X).length=e:= aK ;refine⟨(be e).map X,_,rfl,?_,?_⟩
  .intro y t;obtain⟨i,k,rfl⟩:=dF.1 t;have⟨c,_,u⟩:=b i<|ca.1 k;exact u.1
  .have E:∀ i,i<e->((be e).map X).getD i jT=X i:=by
    intro i k;rw[bB,cQ,awX k];rfl
   have:=TS (W:=W) (a:=a) (len:=e) (cap:=m) (nl:=aa) (λi j=>(AF<|((be e).map X).getD i jT).getD j .any) o w (show 0<7 by decide)
    (λi j _ q=>let⟨Q,u,g⟩:=ar4 (((be e).map X).getD i jT) j q;⟨Q,λ_=>u,g⟩)
    (λi k=>by
     have⟨c,Q,u,_,g⟩:=b i k;exact⟨c,Q,λj q=>by rw[E i k];exact g j q⟩)
   unfold jJ;rw[s];exact this
end
def alO{P}{c:OpenClaim}(h:P.funcs.any Func.goes=ac)(s:c.start = .entering):ac=c.goesBy P:=by
 have x:∀ g:Nat,(P.funcs[g]?).any Func.goes=ac:=by
  intro g;cases hg:P.funcs[g]? with
  |none=>rfl
  |some n=>
   rw[Option.any_some];rw[Array.any_eq_false]at h;have⟨l,e⟩:=cX.1 hg;have:=h g l;rw[e]at this;simpa using this
 have k:∀ f,P.goes f=ac:=by
  intro f;unfold Program.goes;rw[h,Bool.and_false,gv,dt];intro g _;rw[x g];decide
 unfold OpenClaim.goesBy Program.goesAt Program.goesFrom;rw[s];cases P.funcNamed c.func with
 |none=>rfl
 |some f=>simp[k f]
def akV:Tryz.pinned.checked.prog.funcs.any Func.goes=ac:= aI 
def aan(k:IntKind)(l:List Int):E:=.sl aa l.length 1 λi _=>.v<|.int k<|l.getD i 0
def afJ{k z}(h:(Lit.int k z).wf=aa):lN k z:=by
 cases k<;>(simp[Lit.wf,IntKind.min,IntKind.max,IntKind.signed,IntKind.bits]at h;simp only[lN];omega)
def apH{H enc W f cs}{x:DataW H×List MemPlace}{t e k}(o:∀ A,qI (.int k A)=ac)(w:prog.underlying t=al (.slice e))(Y:prog.underlying e=al (.int k))(C:prog.cellsOf e=1)(h:DataW.trod enc prog W 0 (λ_=>aa) aa f t cs=al x):∃ l v,cs=[v]/\(∀ A,A ∈ l->lN k A)/\z ud uw W (aan k l) v:=by
 rcases Deep.open_slice w h with⟨rfl,_⟩|⟨a,u,c,m,n,D,L,rfl,G,Z,F,p,rfl,V⟩
 .exact ⟨[],_,rfl,(λy T=>by cases T),.sl aa 0 1 _ am 0 (λ_ _=>.bool ac) (bA _) aG (λ_=>rfl) (λi j s=>absurd s<|bD i) (λi j s=>absurd s<|bD i) (λi j s=>absurd s<|bD i) λi j s=>absurd s<|bD i⟩
 .simp only[bK]at p;subst p;have g:∀ i,∃ A:Int,i<u->W.cells? 0 (a.add<|i*1) 1=al [.int k A]/\lN k A:=by
   intro i;by_cases s:i<u
   .have⟨S,d,R⟩:=V i U ;rw[C]at d;have⟨A,Q,_,P⟩:=DataW.trod_int Y R;subst Q;exact⟨A,λ_=>⟨d,afJ P⟩⟩
   .exact ⟨0,λh=>absurd h s⟩
  let X:Nat->Int:=λi=>Classical.choose<|g i
  have b:∀ i,i<u->W.cells? 0 (a.add<|i*1) 1=al [.int k<|X i]/\lN k (X i):=λi=>du<|g i
  have q:((be u).map X).length=u:= aK ;refine⟨(be u).map X,_,rfl,?_,?_⟩
  .intro r N;obtain⟨i,s,rfl⟩:=dF.1 N;exact(b i<|ca.1 s).2
  .have E:∀ i,i<u->((be u).map X).getD i 0=X i:=by
    intro i s;rw[bB,cQ,awX s];rfl
   have:=TS (W:=W) (a:=a) (len:=u) (cap:=m) (nl:=aa) (λi _=>.v<|.int k<|((be u).map X).getD i 0) Z F (show 0<1 by decide)
    (λi j _ M=>⟨rfl,λ_=>by show(!qI _)=aa;rw[o];rfl,rfl⟩)
    (λi s=>by
     refine⟨[.int k<|X i],(b i s).1,λj M=>?_⟩;obtain rfl:j=0:= U ;exact⟨_,rfl,by rw[E i s];exact .v _⟩)
   unfold aan;rw[q];exact this
end Go.Proofs.YthalchiobglflaaGreatDoor
namespace Go.Proofs.YthalchiobglflaaGreatDoor.Pu
open Go.RowKit
inductive R where
 |nil
 |jt
 |a (p:Prop) (r:R)
 |w (p:Prop) (r1:p->R) (r2:¬p->R)
def R.ok:R->Prop
 | .nil=>True
 | .jt=>False
 | .a p r=>p/\r.ok
 | .w p r1 r2=>(∀ h:p,(r1 h).ok)/\(∀ h:¬p,(r2 h).ok)
inductive Tr(P:Program)(K:World->Prop) where
 |nil
 |c {f:FuncId} {args:List E} {j9:E} (h:PC P K f args j9) (t:Tr P K)
 |cf {f:FuncId} {args:List E} {j9:E} (h:Er P K f args j9) (t:Tr P K)
 |cn {f:FuncId} {args:List E} {nl:Bool} {T:TypeId} {n sz:Nat} {el:Nat->Nat->E} (h:wJ P K f args nl T n sz el) (t:Tr P K)
 |g {op:BinOp} {ty:TypeId} {x y:E} {v:Value} (h:qU P op ty x y v) (t:Tr P K)
 |gi {op:BinOp} {ty:TypeId} {x y:E} {v:Value} (h:qU P op ty x y v) (t:Tr P K)
 |m {l:List<|Int×FuncId×List FuncId} {z:Int} {e:E} (h:FB l z=some e) (t:Tr P K)
 |o (d:Nat) {p q:PV} (h:PV.le p q) (t:Tr P K)
 |bo (t:Tr P K)
 |a {p:Prop} (h:p) (t:Tr P K)
 |w (p:Prop) (t1:p->Tr P K) (t2:¬p->Tr P K)
 |s {c:Code} {σ τ:PS} {e:Ex} (h:Sp P K c σ λe' τ'=>e'=e/\τ'=τ) (l t:Tr P K)
 |j (c:Nat) (τ:PS) (tj t:Tr P K)
 |v (d:Nat) {p q:PV} (h:PV.le p q) (t:Tr P K)
 |b (d:Nat) {p q:Bx} (h:Bx.le p q) (t:Tr P K)
 |z (id:Nat) (t:Tr P K)
 |y (s id:Nat) (nl:Bool) (T:TypeId) (sz:Nat) (el:Nat->Nat->E) (t:Tr P K)
 |e (t:Tr P K)
 |k (ts bs:List Nat) (t:Tr P K)
 |u (n:Nat) (t:Tr P K)
 |x (h:False)
 |r {p q:E} (h:E.le p q)
 |rb {p q:Bx} (h:Bx.le p q)
section
variable {P:Program} {K:ap->Prop}
def Im:List (Nat×PV)->Tr P K->(Tr P K->R)->R
 | [],t,k=>k t
 | (d,q)::l,t,k=>match t with
  | .o d' (p:=p) (q:=q') _ t'=>if a2 d' d then .a (PV.le p q') (Im l t' k)else .a (PV.le q q) (Im l t k)
  |t=>.a (PV.le q q)<|Im l t k
def Gi:List (Nat×Bx)->Tr P K->R->R
 | [],_,r=>r
 | (d,q)::l,t,r=>match t with
  | .b d' (p:=p) (q:=q') _ t'=>if a2 d' d then .a (Bx.le p q') (Gi l t' r)else .a (Bx.le q q) (Gi l t r)
  |t=>.a (Bx.le q q)<|Gi l t r
def vO(σ:PS)(t:Tr P K)(r:R):R:=Im σ.t t λt=>Gi σ.b t r
def Tr.ex:Tr P K->(Tr P K->R)->R
 | .nil,fin=>fin .nil
 | .e t,fin=>fin t
 | @Tr.c _ _ f args j9 _ t,fin=>.a (PC P K f args j9)<|t.ex fin
 | @Tr.cf _ _ f args j9 _ t,fin=>.a (Er P K f args j9)<|t.ex fin
 | @Tr.cn _ _ f args nl T n sz el _ t,fin=>.a (wJ P K f args nl T n sz el)<|t.ex fin
 | @Tr.g _ _ op₁ ty₁ xe₁ ye₁ ve₁ _ t,fin=>.a (qU P op₁ ty₁ xe₁ ye₁ ve₁)<|t.ex fin
 | @Tr.gi _ _ op₁ ty₁ xe₁ ye₁ ve₁ _ t,fin=>.a (qU P op₁ ty₁ xe₁ ye₁ ve₁)<|t.ex fin
 | @Tr.m _ _ l₁ z₁ e₁ _ t,fin=>.a (FB l₁ z₁=al e₁)<|t.ex fin
 | .o _ (p:=p) (q:=q) _ t,fin=>.a (PV.le p q)<|t.ex fin
 | .bo t,fin=>.a True<|t.ex fin
 | .a (p:=p) _ t,fin=>.a p<|t.ex fin
 | .w p t1 t2,fin=>.w p (λh=>(t1 h).ex fin) λh=>(t2 h).ex fin
 | @Tr.s _ _ c₁ σ τ e₁ _ l t,fin=>vO σ l<|.a (Sp P K c₁ σ λe x=>e=e₁/\x=τ)<|t.ex fin
 | .j _ τ tj t,fin=>.a (tj.ex λt=>vO τ t .nil).ok<|t.ex fin
 | .v _ (p:=p) (q:=q) _ t,fin=>.a (PV.le p q)<|t.ex fin
 | .b _ _ t,fin=>t.ex fin
 | .z _ t,fin=>t.ex fin
 | .y _ _ _ _ _ _ t,fin=>t.ex fin
 | .k _ _ t,fin=>t.ex fin
 | .u _ t,fin=>t.ex fin
 | .x _,fin=>.a False .nil
 | .r (p:=p) (q:=q) _,fin=>.a (E.le p q) .nil
 | .rb (p:=p) (q:=q) _,fin=>.a (Bx.le p q) .nil
def auu{l t}{k:Tr P K->R}(y:∀ t,(k t).ok):(Im l t k).ok:=by
 induction l generalizing t with
 |nil=>exact y t
 |cons x l i=>
  have⟨d,q⟩:=x;cases t with
  |o z h u=>
   simp only[Im];split
   .exact ⟨h,i⟩
   .exact ⟨PV.le.refl q,i⟩
  |_=>exact⟨PV.le.refl q,i⟩
def agR{l}{t:Tr P K}{r}(k:r.ok):(Gi l t r).ok:=by
 induction l generalizing t with
 |nil=>exact k
 |cons x l i=>
  have⟨d,q⟩:=x;cases t with
  |b y h z=>
   simp only[Gi];split
   .exact ⟨h,i⟩
   .exact ⟨Bx.le.refl q,i⟩
  |_=>exact⟨Bx.le.refl q,i⟩
def K1{σ}{t:Tr P K}{r}(h:r.ok):(vO σ t r).ok:=auu λ_=>agR h
def Tr.I8{fin}(f:∀ t,(fin t).ok)(t:Tr P K):(t.ex fin).ok:=by
 induction t generalizing fin with
 |nil=>exact f _
 |e t=>exact f _
 |c h t i=>exact⟨h,i f⟩
 |cf h t i=>exact⟨h,i f⟩
 |cn h t i=>exact⟨h,i f⟩
 |g h t i=>exact⟨h,i f⟩
 |gi h t i=>exact⟨h,i f⟩
 |m h t i=>exact⟨h,i f⟩
 |o d h t i=>exact⟨h,i f⟩
 |bo t i=>exact⟨trivial,i f⟩
 |a h t i=>exact⟨h,i f⟩
 |w p Z U J S=>exact⟨λh=>J h f,λh=>S h f⟩
 |s h l t X R=>exact K1 ⟨h,R f⟩
 |j c V Q t q R=>exact⟨q λ_=>K1 trivial,R f⟩
 |v d h t i=>exact⟨h,i f⟩
 |b d h t i=>exact i f
 |z Y t i=>exact i f
 |y s Y N T M L t i=>exact i f
 |k H G t i=>exact i f
 |u n t i=>exact i f
 |x h=>exact h.elim
 |r h=>exact⟨h,trivial⟩
 |rb h=>exact⟨h,trivial⟩
def Uy(h:PS):List (Nat×PV)->R->R
 | [],r=>r
 | (d,q)::l,r=>.a (PV.le (h.get d) q)<|Uy h l r
def LI(h:PS):List (Nat×Bx)->R->R
 | [],r=>r
 | (d,q)::l,r=>match h.bo d with
  |some b=>.a (Bx.le b q)<|LI h l r
  |none=>.jt
def OE(h σ:PS)(r:R):R:=if a2 h.n σ.n&&(σ.b.all (λx=>x.2.nl)||(σ.nl==h.nl))&&KM σ then Uy h σ.t (LI h σ.b r)else .jt
def Tr.tail:Tr P K->Tr P K
 | .c _ t=>t
 | .cf _ t=>t
 | .cn _ t=>t
 | .g _ t=>t
 | .gi _ t=>t
 | .m _ t=>t
 | .bo t=>t
 | .a _ t=>t
 |_=>.nil
def S7:List Prop->Tr P K->(Tr P K->R)->R
 | [],t,k=>k t
 |p::l,t,k=>.a p<|S7 l t.tail k
def Wx(d:Option Tmp)(t:Tr P K):rT:=match d with
 |some d=>match t with
  | @Tr.c _ _ _ _ j9 _ _=>{ cl:=[(d,j9)] }
  | @Tr.cf _ _ _ _ j9 _ _=>{ cl:=[(d,j9)] }
  | @Tr.g _ _ _ _ _ _ ve₁ _ _=>{ cl:=[(d,.v ve₁)] }
  | @Tr.gi _ _ _ _ _ _ ve₁ _ _=>{ gi:=[(d,ve₁)] }
  | @Tr.m _ _ _ _ e₁ _ _=>{ cl:=[(d,e₁)] }
  | @Tr.cn _ _ _ _ nl T n sz el _ _=>{ nw:=[(d,.row nl T n sz el)] }
  | .bo _=>{ nw:=[(d,.cells 0 [])] }
  |_=>{}
 |none=>{}
def Ky:Tr P K->(Tr P K->R)->R
 | .w p t1 t2,k=>.w p (λh=>Ky (t1 h) k) λh=>Ky (t2 h) k
 | .x _,_=>.a False .nil
 |t,k=>k t
def Tp(o:Oper)(u:kZ)(t:Tr P K)(k:kZ->Tr P K->R):R:=match o.dst,t with
 |some d,.o d' (q:=q) _ t'=>if a2 d' d then .a (PV.le u.r q) (k { u with r:=q,ki:=PV.le u.r q::u.ki } t')else k u t
 |_,t=>k u t
def Ti(T:List TI)(i:Array Oper)(σ:PS)(o:Oper)(t:Tr P K)(k:kZ->Tr P K->R):R:=
 if th σ o.dst then match C4 i σ o with
  |some ac=>k { r:=.e<|.v<|.tuple #[],rd:=(looks i o).map σ.get } t
  |some aa=>Ky t λt=>match kj P K T (Wx o.dst t) σ o with
   |some u=>S7 u.ki t λt=>Ky t λt=>Tp o u t λu t=>k { u with rd:=(looks i o).map σ.get } t
   |none=>.jt
  |none=>.jt
 else .jt
def Kt(T:List TI)(i:Array Oper)(k:List (Oper×kZ)->PS->Tr P K->R):List Oper->List (Oper×kZ)->PS->Tr P K->R
 | [],us,σ,t=>k us σ t
 |o::l,us,σ,t=>Ti T i σ o t λu h=>Kt T i k l ((o,u)::us) (σ.app o.dst u) h
def uy(c:Bool):Tr P K->PS->(Tr P K->PS->R)->R
 | .w p t1 t2,y,k=>.w p (λh=>uy c (t1 h) y k) λh=>uy c (t2 h) y k
 | .x _,_,_=>.a False .nil
 | .v d (q:=q) _ t,y,k=>match q with
  | .e x=>if th y (al d)then .a (PV.le (y.get d)<|.e x) (uy c t (y.put (al d)<|.e x) k)else .jt
  |_=>.jt
 | .k ts bs t,y,k=>if c then k (.k ts bs t) y else if KM (y.cut ts bs)then uy c t (y.cut ts bs) k else .jt
 | .z id t,y,k=>if c then k (.z id t) y else match y.bo id with
  |some b=>match b.as with
   |some e=>uy c t (y.A0 id e) k
   |none=>.jt
  |none=>.jt
 | .y s id nl T sz el t,y,k=>if c then k (.y s id nl T sz el t) y else match y.bo id,y.get s with
  |none,.e (.v<|.slice am 0 0)=>if !y.nl||nl then uy c t (y.Ge s id<|.row nl T 0 sz el) k else .jt
  |_,_=>.jt
 |t,y,k=>k t y
def OB(c:Code)(σ:PS)(t:Tr P K)(k:Ex->PS->Tr P K->R):R:=match t with
 | @Tr.s _ _ _ σ' τ e _ _ t=>OE σ σ'<|.a (Sp P K c σ' λx h=>x=e/\h=τ)<|k e τ t
 |_=>.jt
def Ex.qX:Ex->Ex->Bool
 | .normal,.normal=>aa
 | .ret,.ret=>aa
 | .exit a,.exit b=>a2 a b
 |_,_=>ac
def EI(e:Ex)(τ:PS)(h:Ex)(x:PS)(_:Tr P K):R:=if Ex.qX h e then OE x τ .nil else .jt
def ajc:Operand->Nat
 | .tmp t=>2*t
 |_=>1
def jn(c:Nat)(g:PS->Tr P K->(Ex->PS->Tr P K->R)->R)(σ:PS)(t:Tr P K)(k:Ex->PS->Tr P K->R):R:=match t with
 | .j c' τ tj t'=>if a2 c' c then .a (g σ tj<|EI .normal τ).ok (k .normal τ t')else g σ t k
 |t=>g σ t k
def Tr.isS:Tr P K->Bool
 | .s ..=>aa
 |_=>ac
def afB(g f:PS->Tr P K->(Ex->PS->Tr P K->R)->R):Nat->PS->Tr P K->(Ex->PS->Tr P K->R)->R
 | 0,_,_,_=>.jt
 |n+1,h,t,k=>uy ac t h λt h=>if t.isS then g h t k else f h t λe x t=>match e with
  | .normal=>afB g f n x t k
  |e=>k e x t
def yS(T:List TI):Code->PS->Tr P K->(Ex->PS->Tr P K->R)->R
 | .skip,h,t,k=>k .normal h t
 | .region _ z d,h,t,k=>Kt T z (λu x t=>if !d||BA z 0 u.reverse then k .normal x t else .jt) z.toList [] h t
 | .seq a b,h,t,k=>yS T a h t λe x t=>match e with
  | .normal=>yS T b x t k
  |e=>k e x t
 | .cond c a b,h,t,k=>uy aa t h λt h=>jn (ajc c) (λh t k=>uy aa t h λt h=>match h.op c with
  | .e (.v<|.bool aa)=>yS T a h t k
  | .e (.v<|.bool ac)=>yS T b h t k
  |_=>.jt) h t k
 | .block id b,h,t,k=>uy aa t h λt h=>jn (2*id+1) (λh t k=>yS T b h t λe x t=>match e with
  | .exit i=>if a2 i id then k .normal x t else k (.exit i) x t
  |e=>k e x t) h t k
 | .exit id,h,t,k=>uy ac t h λt h=>k (.exit id) h t
 | .ret,h,t,k=>uy ac t h λt h=>k .ret h t
 | .loop b,h,t,k=>uy ac t h λt h=>match t with
  | .u n t=>afB (OB<|.loop b) (yS T b) n h t k
  |t=>OB (.loop b) h t k
 | .label _,h,t,k=>k .normal h t
 | .scope b,h,t,k=>yS T b h t k
 |_,_,_,_=>.jt
def acy{t}{k:Tr P K->R}(h:(Ky t k).ok):∃ z,(k z).ok:=by
 induction t with
 |w p u v J S=>
  by_cases y:p
  .exact J y<|h.1 y
  .exact S y<|h.2 y
 |x f=>exact f.elim
 |_=>exact⟨_,h⟩
def apj{l t}{k:Tr P K->R}(h:(S7 l t k).ok):(∀ q,q ∈ l->q)/\∃ y,(k y).ok:=by
 induction l generalizing t with
 |nil=>exact⟨λq x=>by simp at x,t,h⟩
 |cons p l i=>
  have⟨z,u⟩:=i h.2;refine⟨λq x=>?_,u⟩;rcases dg.1 x with x|x
  .subst x;exact h.1
  .exact z q x
variable {T:List TI} {W:Array Oper} {σ:PS} {o:Oper}
def apW{O u t}{k:kZ->Tr P K->R}(m:O.ov=[])(r:kj P K T O σ o=al u)(n:∀ q,q ∈ u.ki->q)(h:(Tp o u t k).ok):
 ∃ s y z,xC P K T s σ o=al y/\(∀ q,q ∈ y.ki->q)/\(k y z).ok:=by
 have l:(k u t).ok->∃ s y z,xC P K T s σ o=al y/\(∀ q,q ∈ y.ki->q)/\(k y z).ok:=by
  intro h;refine⟨O,u,t,?_,n,h⟩;unfold xC;rw[r,m];cases o.dst<;>rfl
 unfold Tp at h;split at h
 .rename_i d a p q g z f;split at h
  .have⟨e,c⟩:=h;refine⟨⟨O.cl,[(d,q)],O.nw,O.gi⟩,_,z,?_,λx v=>?_,c⟩
   .unfold xC;have b:kj P K T ⟨O.cl,[(d,q)],O.nw,O.gi⟩ σ o=kj P K T O σ o:=by cases O;rfl
    rw[b,r,f];simp[look]
   .rcases dg.1 v with v|v
    .subst v;exact e
    .exact n x v
  .exact l h
 .exact l h
def apE{t}{k:kZ->Tr P K->R}(h:(Ti T W σ o t k).ok):∃ u z,(∃ O,tD P K T O W σ o=al u)/\(∀ q,q ∈ u.ki->q)/\(k u z).ok:=by
 unfold Ti at h;split at h
 .rename_i i;split at h
  .rename_i w;refine⟨_,t,⟨{},?_⟩,λq v=>by simp at v,h⟩;unfold tD;rw[bt i,w]
  .rename_i w;have⟨s,x⟩:=acy h;split at x
   .rename_i u r;have⟨p,n,y⟩:=apj x;have⟨n,y⟩:=acy y;have⟨m,l,g,f,e,c⟩:=apW (by
     unfold Wx;cases o.dst with
     |none=>rfl
     |some d=>cases s<;>rfl) r p y
    refine⟨{ l with rd:=(looks W o).map σ.get },g,⟨m,?_⟩,e,c⟩;unfold tD;rw[bt i,w,f]
   .exact x.elim
  .exact h.elim
 .exact h.elim
def Tn{k l s}{t:Tr P K}(h:(Kt T W k l s σ t).ok):
 ∃ vs τ z,yH P K T W vs σ τ/\vs.map (·.1)=l/\(∀ x,x ∈ vs->∀ q,q ∈ x.2.ki->q)/\(k (vs.reverse++s) τ z).ok:=by
 induction l generalizing s σ t with
 |nil=>exact⟨[],σ,t,ug.refl σ,rfl,λx y=>by simp at y,h⟩
 |cons o l i=>
  have⟨u,e,v,r,p⟩:=apE h;have⟨vs,τ,z,n,m,g,f⟩:=i p;refine⟨(o,u)::vs,τ,z,⟨v,n⟩,by simp[m],λx y=>?_,by simpa using f⟩;rcases dg.1 y with y|y
  .subst y;exact r
  .exact g x y
def PS.le.set{σ d x}(k:th σ (al d)=aa)(h:PV.le (σ.get d)<|.e x):PS.le σ<|σ.put (al d)<|.e x:=λz B a w L _ r=>by
 have E:d<σ.n:=by simpa[th,gl]using k
 refine⟨L,r.hd,by rw[PS.NK];exact r.hs,λt=>?_,λi b y=>r.hb i b y,r.hv,r.hn,r.hw,r.hi,r.he,r.hl⟩;rw[PS.QH];by_cases e:d=t
 .subst e;rw[bt rfl];exact h _ _ _ _ _<|r.ht d
 .rw [bn e];exact r.ht t
def FH{c t σ}{k:Tr P K->PS->R}(h:(uy c t σ k).ok):∃ u τ,PS.le σ τ/\(k u τ).ok:=by
 induction t generalizing σ with
 |w p U V J S=>
  by_cases n:p
  .exact J n<|h.1 n
  .exact S n<|h.2 n
 |k f a t i=>
  simp only[uy]at h;split at h
  .exact ⟨_,σ,PS.le.refl σ,h⟩
  split at h
  .rename_i j;have⟨u,τ,r,q⟩:=i h;exact⟨u,τ,(PS.le.cut f a j).trans r,q⟩
  .exact h.elim
 |v d Q t i=>
  simp only[uy]at h;split at h
  .rename_i x;split at h
   .rename_i o;have⟨u,τ,r,q⟩:=i h.2;exact⟨u,τ,(PS.le.set o h.1).trans r,q⟩
   .exact h.elim
  .exact h.elim
 |z m t i=>
  simp only[uy]at h;split at h
  .exact ⟨_,σ,PS.le.refl σ,h⟩
  split at h
  .rename_i b l;split at h
   .rename_i e X;have⟨u,τ,r,q⟩:=i h;exact⟨u,τ,(PS.le.freeze m l X).trans r,q⟩
   .exact h.elim
  .exact h.elim
 |y s m N T M L t i=>
  simp only[uy]at h;split at h
  .exact ⟨_,σ,PS.le.refl σ,h⟩
  split at h
  .rename_i l Y;split at h
   .rename_i g;have⟨u,τ,r,q⟩:=i h;exact⟨u,τ,(PS.le.agi s m l Y (λe=>by rw[e]at g;simpa using g)).trans r,q⟩
   .exact h.elim
  .exact h.elim
 |x Z=>exact Z.elim
 |_=>exact⟨_,σ,PS.le.refl σ,h⟩
def auv{k l r}(h:(Uy k l r).ok):AO k l/\r.ok:=by
 induction l with
 |nil=>exact⟨trivial,h⟩
 |cons x l i=>have⟨d,q⟩:=x;exact⟨⟨h.1,(i h.2).1⟩,(i h.2).2⟩
def ahg{k l r}(h:(LI k l r).ok):zP k l/\r.ok:=by
 induction l with
 |nil=>exact⟨trivial,h⟩
 |cons x l i=>
  have⟨d,q⟩:=x;simp only[LI]at h;split at h
  .rename_i b y;exact⟨⟨⟨b,y,h.1⟩,(i h.2).1⟩,(i h.2).2⟩
  .exact h.elim
def aeT{k σ r}(h:(OE k σ r).ok):PS.le k σ/\r.ok:=by
 unfold OE at h;split at h
 .rename_i c;simp only[bN,eG,ik]at c;have⟨⟨y,x⟩,z⟩:=c;have⟨u,t⟩:=auv h;have⟨v,s⟩:=ahg t;refine⟨?_,s⟩;rcases x with x|x
  .exact PS.le.anF (lY.1 y) x z u v
  .exact PS.le.oE (lY.1 y) x z u v
 .exact h.elim
def asB(s:mP P T){k B a w L}(g:Gd P K k B){u τ Q}(h:yH P K T W u σ τ)(o:∀ x,x ∈ u->∀ q,q ∈ x.2.ki->q)(r:jy k B σ a w L)(n:∀ z w' t,jy k B τ z w' t->Q .normal z w'):wpList P W Q (u.map (·.1)) a w:=by
 induction u generalizing σ a w L with
 |nil=>exact n a w L<|r.qX h
 |cons x u i=>
  have⟨⟨O,m⟩,l⟩:=h;rw[ew];unfold wpList;rcases Qr s g r m (o x aK) (wpList P W Q (u.map (·.1))) Q (λz w' t f=>i l (λy e=>o y<|by simp[e]) f)with⟨p,v⟩|⟨p,v⟩
  .rw [bt p];exact .inl v
  .rw [bn<|by rw[p];simp];exact v
def arR(y:mP P T)(m:P.follows .mixedOrders=aa){k B a w L}(g:Gd P K k B){id d u τ Q}(h:yH P K T W u σ τ)(l:u.map (·.1)=W.toList)(o:∀ x,x ∈ u->∀ q,q ∈ x.2.ki->q)(p:(!d||BA W 0 u)=aa)(r:jy k B σ a w L)(z:∀ v w' s,jy k B τ v w' s->Q .normal v w'):(Code.region id W d).wp P Q a w:=by
 cases d with
 |false=>exact wp_region_list<|by rw[<-l];exact asB y g h o r z
 |true=>
  have⟨R,t,n,f⟩:=anM l (by simpa using p);refine wp_region_any m (agm y g z W.size (Array.replicate W.size ac) R σ a w.drew L n aK f (λx e=>o x.2 ?_) (by rw[t];exact h) r.drew);rw[<-t];exact dF.2 ⟨x,e,rfl⟩
def aeP{c t}{k:Ex->PS->Tr P K->R}(h:(OB c σ t k).ok):Sp P K c σ (λe τ=>∃ x,(k e τ x).ok):=by
 unfold OB at h;split at h
 .have⟨y,z,u⟩:=aeT h;exact Sp.pre y (z.mono λe τ ⟨q,v⟩=>by subst q v;exact⟨_,u⟩)
 .exact h.elim
def Ex.asE{a b}(h:Ex.qX a b=aa):a=b:=by
 cases a<;>cases b<;>first|rfl|(cases h;done)|exact congrArg Ex.exit<|lY.1 h
def Mm{e x τ k}{t:Tr P K}(h:(EI e τ x k t).ok):x=e/\PS.le k τ:=by
 unfold EI at h;split at h
 .rename_i y;exact⟨Ex.asE y,(aeT h).1⟩
 .exact h.elim
def aaJ{c b g}(y:∀ σ t k,(g σ t k).ok->Sp P K c σ (λe τ=>∃ x,(k e τ x).ok)){σ t}{k:Ex->PS->Tr P K->R}(h:(jn b g σ t k).ok):
 Sp P K c σ (λe τ=>∃ x,(k e τ x).ok):=by
 unfold jn at h;split at h
 .rename_i v τ j t;split at h
  .refine (y _ _ _ h.1).post λe s ⟨x,z⟩=>?_
   have⟨u,l⟩:=Mm z;exact⟨τ,l,t,by rw[u];exact h.2⟩
  .exact y _ _ _ h
 .exact y _ _ _ h
def vR(P:Program)(K:ap->Prop)(b:Code)(σ:PS)(Q:Ex->PS->Prop):Prop:=
 ∀ (h:mj) (B:Nat->Nat->Prop) (a:Act) (w:ap) (L:Lk),Gd P K h B->jy h B σ a w L->∀ f k c,
  ∃ e x y,(∃ z u v,e=Ex.to z/\Q z u/\jy h B u x y v)/\Arrives P (lone (f.at a<|.code b :: .inLoop b::k) c w) f k c e x y
def vR.loop{b σ Q}(h:vR P K b σ Q):Sp P K (.loop b) σ Q:=by
 intro x B a w L g r f k c;have⟨e,y,z,q,u⟩:=h x B a w L g r f k c;exact⟨e,y,z,q,.of_steps (.one step_loop) u⟩
def vR.pre{b σ τ Q}(h:PS.le σ τ)(k:vR P K b τ Q):vR P K b σ Q:=λx B a w L g r=>
 let⟨y,z⟩:=h x B a w L (λb o u=>(g.hB b o u).1) r;k x B a w y g z
def vR.step{b σ Q}(h:Sp P K b σ λe τ=>(e = .normal/\vR P K b τ Q)\/(e ≠ .normal/\Q e τ)):vR P K b σ Q:=by
 intro m B a w L g r f k c;obtain⟨e,y,z,⟨d,l,s,rfl,q,p⟩,n⟩:=h m B a w L g r f (.inLoop b::k) c;rcases q with⟨rfl,j⟩|⟨Y,q⟩
 .have⟨u,v,t,R,o⟩:=j m B y z s g p f k c;exact⟨u,v,t,R,.of_steps (Steps.trans n<|.one step_inLoop) o⟩
 .cases d with
  |normal=>exact absurd rfl Y
  |exit i=>exact⟨_,y,z,⟨.exit i,l,s,rfl,q,p⟩,.pass (x:=.inLoop b) rfl (λ_ _=>.inl<|by simp[Ex.to]) n⟩
  |ret=>exact⟨_,y,z,⟨.ret,l,s,rfl,q,p⟩,.pass (x:=.inLoop b) rfl (λ_ _=>.inl<|by simp[Ex.to]) n⟩
def Qt{id : Nat} : ∀ {k k' : List Item},exitTo id k=al k'->k'.length<=k.length
  | [],_,h => by simp[exitTo]at h
  |x::k,k',h => by
    cases x
    all_goals
      simp only[exitTo]at h
      first
        | (have := Qt h;simp only[dD];omega)
        | (split at h
           . cases h;simp
           . have := Qt h;simp only[dD];omega)
def Steps.Py{m y x}(s:step P m = .next y)(j:m≠x)(h:Steps P m x):Steps P y x:=by
 have⟨n,k⟩:=h;cases n with
 |zero=>simp only[runN,Stepped.next.injEq]at k;exact absurd k j
 |succ n=>exact⟨n,by simpa only[runN,s]using k⟩
def vR.apk{b σ Q}(h:Sp P K (.loop b) σ Q):vR P K b σ Q:=by
 intro d B a w L g r s k c;obtain⟨e,j,v,⟨m,o,X,rfl,Y,Z⟩,q⟩:=h d B a w L g r s k c;have t:∀ (f g:Frame) (w v:ap),lone f c w=lone g c v->f.todo=g.todo:=λf g w v e=>by
  have u:=congrArg Machine.gs e;simp only[lone,Array.mk.injEq,awY,gw]at u;injection u with p;rw[p]
 have l:∀ (y:Act) (x:List Item) (z:ap),x.length<=k.length->lone (s.at a<|.code (.loop b)::k) c w≠lone (s.at y x) c z:=λy x z n e=>by
  have:=congrArg List.length<|t _ _ _ _ e;simp[Frame.at]at this;omega
 refine⟨_,j,v,⟨m,o,X,rfl,Y,Z⟩,?_⟩;cases m with
 |normal=>exact Steps.Py step_loop (l _ _ _<|bA _) q
 |exit i=>exact λU n=>Steps.Py step_loop (l _ _ _<|Qt n)<|q U n
 |ret=>
  have⟨V,T⟩:=q;refine⟨V,Steps.Py step_loop (λe=>?_) T⟩;have u:=congrArg Machine.gs e;simp only[lone,Array.mk.injEq,awY,gw]at u;injection u with p;have S:=congrArg Frame.mode p;simp[Frame.at]at S
section
variable(hT:mP P T)(hm:P.follows .mixedOrders=aa){c:Code}
def Qn{σ t}{k:Ex->PS->Tr P K->R}(h:(yS T c σ t k).ok):Sp P K c σ (λe τ=>∃ v,(k e τ v).ok):=by
 induction c generalizing σ t k with
 |skip=>exact λq B a w L g r=>wp_skip ⟨.normal,_,L,rfl,⟨t,h⟩,r⟩
 |region X W d=>
  have⟨I,τ,v,u,D,C,Q⟩:=Tn h;split at Q
  .rename_i F;simp only[fp,List.reverse_reverse]at F;exact λq B a w L g r=>arR hT hm g u D C F r λY Z m f=>⟨.normal,τ,m,rfl,⟨v,Q⟩,f⟩
  .exact Q.elim
 |seq x y N M=>
  intro q B a w L g r;refine wp_seq<|Code.wp_mono ?_ (N h q B a w L g r);rintro E Y Z ⟨U,p,m,rfl,⟨v,s⟩,f⟩;cases U with
  |normal=>exact M s q B Y Z m g f
  |exit i=>exact⟨.exit i,p,m,rfl,⟨v,s⟩,f⟩
  |ret=>exact⟨.ret,p,m,rfl,⟨v,s⟩,f⟩
 |cond c x y N M=>
  have⟨j,τ,zy,u⟩:=FH h;refine Sp.pre zy<|aaJ (λσ t k h=>?_) u;have⟨j,τ,zy,u⟩:=FH h;refine Sp.pre zy ?_;split at u
  .rename_i H;intro q B a w L g r;have V:=r.op c;rw[H]at V;exact wp_cond_true (z.lr V)<|N u q B a w L g r
  .rename_i H;intro q B a w L g r;have V:=r.op c;rw[H]at V;exact wp_cond_false (z.lr V)<|M u q B a w L g r
  .exact u.elim
 |block X b S=>
  have⟨j,τ,zy,u⟩:=FH h;refine Sp.pre zy<|aaJ (λσ t k h=>?_) u;intro q B a w L g r;refine wp_block<|Code.wp_mono ?_ (S h q B a w L g r);rintro E Y Z ⟨U,p,m,rfl,⟨v,s⟩,f⟩;cases U with
  |normal=>exact⟨.normal,_,m,rfl,⟨v,s⟩,f⟩
  |ret=>exact⟨.ret,_,m,rfl,⟨v,s⟩,f⟩
  |exit i=>
   simp only at s;show Exit.inBlock X _ (.exit i) Y Z;split at s
   .rename_i o;have o:=lY.1 o;subst o;simp only[Exit.inBlock,bK];exact⟨.normal,_,m,rfl,⟨v,s⟩,f⟩
   .rename_i o;have o:i≠X:=λe=>o (lY.2 e)
    simp only[Exit.inBlock,o,bE];exact⟨.exit i,_,m,rfl,⟨v,s⟩,f⟩
 |label l=>exact λq B a w L g r=>wp_label ⟨.normal,_,L,rfl,⟨t,h⟩,r⟩
 |scope b S=>
  intro q B a w L g r;refine wp_scope_straight<|Code.wp_mono ?_ (S h q B a w L g r);rintro E Y Z ⟨U,p,m,rfl,⟨v,s⟩,f⟩;cases U with
  |normal=>exact⟨.normal,p,m,rfl,⟨v,s⟩,f⟩
  |ret=>exact⟨.ret,p,m,rfl,⟨v,s⟩,f⟩
  |exit i=>exact⟨.exit i,p,m,rfl,⟨v,s⟩,f⟩
 |exit X=>
  have⟨j,τ,zy,u⟩:=FH h;exact Sp.pre zy λq B a w L g r=>wp_exit ⟨.exit X,_,L,rfl,⟨j,u⟩,r⟩
 |ret=>
  have⟨j,τ,zy,u⟩:=FH h;exact Sp.pre zy λq B a w L g r=>wp_ret ⟨.ret,_,L,rfl,⟨j,u⟩,r⟩
 |loop b S=>
  have⟨j,τ,zy,u⟩:=FH h;refine Sp.pre zy ?_;split at u
  .rename_i n t;clear zy h;refine vR.loop ?_
   induction n generalizing τ t with
   |zero=>exact u.elim
   |succ n G=>
    have⟨J,A,zy,u⟩:=FH u;split at u
    .exact vR.pre zy<|vR.apk<|aeP u
    refine vR.pre zy<|vR.step<|(S u).mono λe O ⟨v,s⟩=>?_;cases e with
    |normal=>exact .inl ⟨rfl,G _ _ s⟩
    |exit i=>exact .inr ⟨aK,v,s⟩
    |ret=>exact .inr ⟨aK,v,s⟩
  .exact aeP u
 |_=>exact h.elim
def Sp.tr{σ τ e}(t:Tr P K)(h:yS T c σ t (EI e τ)=t.ex λt=>vO τ t .nil):
 Sp P K c σ (λk x=>k=e/\x=τ):=by
 have y:=Tr.I8 (fin:=λt=>vO τ t .nil) (λt=>K1 trivial) t;rw[<-h]at y;refine(Qn hT hm y).post λk v ⟨s,z⟩=>?_
 have⟨u,l⟩:=Mm z;exact⟨τ,l,u,rfl⟩
end
def Yf(T:List TI)(fn:Func)(j:E)(e:Ex)(τ:PS)(_:Tr P K):R:=match e with
 | .exit _=>.jt
 |_=>match KN T fn τ with
  |some r=>.a (E.le r j) .nil
  |none=>.jt
def KJ(T:List TI)(fn:Func)(nl:Bool)(a:List E)(j:E)(t:Tr P K):R:=match fn.body with
 |some c=>if Nat.ble a.length fn.ntmps then yS T c (Ct fn nl a) t (Yf T fn j)else .jt
 |none=>.jt
def PC.UD(y:mP P T)(m:P.follows .mixedOrders=aa)(p:∀ w w',K w->Below w.heap.size w w'->K w'){f fn a j}(A:∀ (vs:Array av) (w:ap),(callFunc f vs).run P w = .ok (.enter f vs) w)(z:P.funcs[f]? = al fn)nl(t:Tr P K)(h:KJ T fn nl a j t=t.ex λ_=>.a (E.le j j) .nil):PC P K f a j:=by
 have k:=Tr.I8 (fin:=λ_=>.a (E.le j j) .nil) (λt=>⟨E.le.refl j,trivial⟩) t;rw[<-h]at k;unfold KJ at k;split at k
 .rename_i c b;split at k
  .rename_i n;refine PC.SL y m p A z b (cY n) nl<|(Qn y m k).mono λe s ⟨q,x⟩=>?_;unfold Yf at x;split at x
   .exact x.elim
   .rename_i Y;split at x
    .rename_i r v;refine⟨?_,r,v,x.1⟩;cases e with
     |normal=>exact .inr rfl
     |ret=>exact .inl rfl
     |exit i=>exact absurd rfl (Y i)
    .exact x.elim
  .exact k.elim
 .exact k.elim
def Ye(fn:Func)(b:Bx)(e:Ex)(τ:PS)(_:Tr P K):R:=match e with
 | .exit _=>.jt
 |_=>match fn.results.toList with
  | [.tmp t]=>match τ.get t with
   | .own id=>match τ.bo id with
    |some c=>.a (Bx.le c b) .nil
    |none=>.jt
   |_=>.jt
  |_=>.jt
def TN(T:List TI)(fn:Func)(a:List E)(b:Bx)(t:Tr P K):R:=match fn.body with
 |some c=>if Nat.ble a.length fn.ntmps then yS T c (Ct fn aa a) t (Ye fn b)else .jt
 |none=>.jt
def wJ.UD(y:mP P T)(m:P.follows .mixedOrders=aa)(p:∀ w w',K w->Below w.heap.size w w'->K w'){f fn a nl T0 n sz el}(A:∀ (vs:Array av) (w:ap),(callFunc f vs).run P w = .ok (.enter f vs) w)(z:P.funcs[f]? = al fn)(t:Tr P K)(h:TN T fn a (.row nl T0 n sz el) t=t.ex λ_=>.a (Bx.le (.row nl T0 n sz el)<|.row nl T0 n sz el) .nil):wJ P K f a nl T0 n sz el:=by
 have k:=Tr.I8 (fin:=λ_=>.a (Bx.le (.row nl T0 n sz el)<|.row nl T0 n sz el) .nil) (λt=>⟨Bx.le.refl _,trivial⟩) t;rw[<-h]at k;unfold TN at k;split at k
 .rename_i c b;split at k
  .rename_i v;refine wJ.SL y m p A z b (cY v) aa<|(Qn y m k).mono λe o ⟨X,x⟩=>?_;unfold Ye at x;split at x
   .exact x.elim
   .rename_i j;split at x
    .rename_i s r;split at x
     .rename_i d g;split at x
      .rename_i q l;refine⟨?_,s,d,q,r,g,l,λY Z L w k=>x.1.2 _ _ _ _ _ k⟩;cases e with
       |normal=>exact .inr rfl
       |ret=>exact .inl rfl
       |exit i=>exact absurd rfl (j i)
      .exact x.elim
     .exact x.elim
    .exact x.elim
  .exact k.elim
 .exact k.elim
def Sp.jL{b e τ}(f:Nat->PS)lo hi(u:lo<=hi)(g:∀ x,(lo<=x/\x<=hi)->x<hi->Sp P K b (f x) (λh k=>h = .normal/\k=f (x+1)))(out:(lo<=hi/\hi<=hi)->Sp P K b (f hi) (λh k=>h=e/\k=τ))(v:e ≠ .normal):Sp P K (.loop b) (f lo) λh k=>h=e/\k=τ:=by
 refine Sp.fam f (λx=>lo<=x/\x<=hi) (λx=>hi-x) (λx y=>?_) lo ⟨bA _,u⟩<|PS.le.refl _;rcases Nat.lt_or_eq_of_le y.2 with i|z
 .exact Sp.akL (x+1) (g x y i) ⟨U,U⟩ U<|PS.le.refl _
 .subst z;exact Sp.akM (out y) v<|PS.le.refl _
def iN z(h:-9223372036854775808<=z/\z<=9223372036854775807:=by omega):Tr P K->Tr P K:=.a (p:=lN .i64 z) h
def rp(z:Int)(h:0<=z/\z<=18446744073709551615:=by omega):Tr P K->Tr P K:=.a (p:=lN .u64 z) h
def iX(z:Int)(n:Nat)(h:0<=z/\z<n:=by omega):Tr P K->Tr P K:=.a h
def S(d:Nat){a b:Bool}(h:a=b):Tr P K->Tr P K:=.o d<|PV.le.bool h
def ah(d:Nat)a(h:a=aa):Tr P K->Tr P K:=S d h
def ai(d:Nat)a(h:a=ac):Tr P K->Tr P K:=S d h
def tT(d:Nat)p[Decidable p](h:p):Tr P K->Tr P K:=.o d<|PV.le.bool<|bu h
def tF(d:Nat)p[Decidable p](h:¬p):Tr P K->Tr P K:=.o d<|PV.le.bool<|bw h
section
variable(d:Nat)(a b:Int)
def tE(h:a=b:=by(omega)):Tr P K->Tr P K:=.o d<|PV.le.bool (bg h:(a==b)=aa)
def tN(h:a≠b:=by(omega)):Tr P K->Tr P K:=.o d<|PV.le.bool (bd h:(a==b)=ac)
def tM(h:a=b:=by(omega)):Tr P K->Tr P K:=.o d<|PV.le.bool (by simp[h]:(a != b)=ac)
end
def yN{b}(h:b=aa):(!b)=ac:=by rw[h];rfl
def yM{b}(h:b=ac):(!b)=aa:=by rw[h];rfl
def V(p q:E)(h:p=q):Tr P K:=.r<|E.le.jB h
def rR q{p}(h:E.le p q):Tr P K:=.r h
def Y(l:List<|Tr P K->Tr P K)(t:Tr P K):Tr P K:=l.foldr (λf t=>f t) t
def af(l:List<|Tr P K->Tr P K):Tr P K:=Y l .nil
end
end Go.Proofs.YthalchiobglflaaGreatDoor.Pu
namespace Go.Proofs.YthalchiobglflaaGreatDoor
open Go.RowKit Fp Pu
def tr nl{f fn a j}(A:∀ (vs:Array av) (w:ap),(callFunc f vs).run prog w = .ok (.enter f vs) w)(x:prog.funcs[f]? = al fn)(t:Tr prog Tb)(h:KJ TT fn nl a j t=t.ex λ_=>.a (E.le j j) .nil):iB f a j:=
 PC.UD IA mixed Pj A x nl t h
def ag a{f ko}(h:iB f a ko):Tr prog Tb->Tr prog Tb:=.c h
def ak{f fn a j}(A:∀ (vs:Array av) (w:ap),(callFunc f vs).run prog w = .ok (.enter f vs) w)(x:prog.funcs[f]? = al fn)(t:Tr prog Tb)(h:KJ TT fn aa a j t=t.ex λ_=>.a (E.le j j) .nil:=by kernel_rfl):iB f a j:=tr aa A x t h
def an{f fn a j}(A:∀ (vs:Array av) (w:ap),(callFunc f vs).run prog w = .ok (.enter f vs) w)(x:prog.funcs[f]? = al fn)(t:Tr prog Tb)(h:KJ TT fn ac a j t=t.ex λ_=>.a (E.le j j) .nil:=by kernel_rfl):iB f a j:=tr ac A x t h
noncomputable def Mv(f:ax):Func:=(prog.funcs[f]?).getD default
noncomputable def Hl(f:ax):Bool:=match prog.funcs[f]? with
 |some n=>!(n.name == "runtime.NumGoroutine")&&n.body.isSome
 |none=>ac
section
variable{f:ax}(h:Hl f=aa)
def Tc:prog.funcs[f]? = al (Mv f):=by
 unfold Hl at h;unfold Mv;cases e:prog.funcs[f]? with
 |none=>rw[e]at h;cases h
 |some n=>rfl
def Ta vs w:(callFunc f vs).run prog w = .ok (.enter f vs) w:=by
 have e:=Tc h;unfold Hl at h;rw[e]at h;simp at h;have⟨x,k⟩:=h;have⟨c,y⟩:=ie.1 k;simp[callFunc,e,x,y]
end
section
variable{f:ax}{args:List E}{j:E}(t:Tr prog Tb)
def iL(h:(Hl f,KJ TT (Mv f) aa args j t)=(aa,t.ex λ_=>.a (E.le j j) .nil):=by(kernel_rfl)):iB f args j:=
 tr aa (Ta (gM h).1) (Tc (gM h).1) t (gM h).2
def pL(h:(Hl f,KJ TT (Mv f) ac args j t)=(aa,t.ex λ_=>.a (E.le j j) .nil):=by(kernel_rfl)):iB f args j:=
 tr ac (Ta (gM h).1) (Tc (gM h).1) t (gM h).2
end
def iU{c σ τ e}(t:Tr prog Tb)(h:yS TT c σ t (EI e τ)=t.ex λt=>vO τ t .nil):
 Sp prog Tb c σ (λk x=>k=e/\x=τ):=Sp.tr IA mixed t h
abbrev jK(k:Nat)(fn:Func)(σ:PS)(e:Ex)(τ:PS):Prop:=Sp prog Tb (.loop<|ahG k fn) σ λx h=>x=e/\h=τ
section
variable(nl:Bool)
def aam(n N:Nat)(el:Nat->Nat->E)(g:ax)(cap:List E)(i:Nat):PS:=⟨19,ac,[(8,.e<|D i),(7,.e<|D n),(0,.e<|.sl nl n 1 el),(1,.e<|.fn g cap)],[]⟩
section
variable(n:Nat)(el:Nat->Nat->E)(g:ax)(cap:List E)(i:Nat)
def aal:PS:=⟨19,ac,[(8,.e<|D i),(7,.e<|D n),(0,.e<|.sl nl n 1 el),(1,.e<|.fn g cap)],[]⟩
def aaX:PS:=⟨19,ac,[(8,.e<|D i),(7,.e<|D n),(0,.e<|.sl nl n 1 el),(1,.e<|.fn g cap)],[]⟩
end
def aay(n N:Nat)(el:Nat->Nat->E)(g:ax)(cap:List E)(i:Nat):PS:=⟨19,ac,[(8,.e<|D i),(7,.e<|D n),(0,.e<|.sl nl n 7 el),(1,.e<|.fn g cap)],[]⟩
def aax(n:Nat)(el:Nat->Nat->E)(g:ax)(cap:List E)(i:Nat):PS:=⟨19,ac,[(8,.e<|D i),(7,.e<|D n),(0,.e<|.sl nl n 7 el),(1,.e<|.fn g cap)],[]⟩
def adP(n N:Nat)(el:Nat->Nat->E)(g:ax)(cap:List E)(i:Nat):PS:=⟨19,ac,[(8,.e<|D i),(7,.e<|D n),(0,.e<|.sl nl n 1 el),(1,.e<|.fn g cap)],[]⟩
def adO(n:Nat)(el:Nat->Nat->E)(g:ax)(cap:List E)(i:Nat):PS:=⟨19,ac,[(8,.e<|D i),(7,.e<|D n),(0,.e<|.sl nl n 1 el),(1,.e<|.fn g cap)],[]⟩
end
def si{p:Nat->Bool}{n}(h:∃ i,i<n/\p i=aa):∃ N,N<n/\p N=aa/\∀ i,i<N->p i=ac:=by
 induction n with
 |zero=>have⟨i,k,_⟩:=h;omega
 |succ n z=>
  by_cases y:∃ i,i<n/\p i=aa
  .have⟨N,k,x,u⟩:=z y;exact⟨N,U,x,u⟩
  .have⟨i,k,x⟩:=h;have:i=n:=by
    by_cases q:i=n
    .exact q
    .exact absurd ⟨i,U,x⟩ y
   subst this;exact⟨i,k,x,λj v=>by simpa using λq=>y ⟨j,v,q⟩⟩
section
variable(nl:Bool)(n:Nat)(el:Nat->Nat->E)(g:ax)(cap:List E)(p:Nat->Bool)
section
variable(u:∀ i,i<n->iB g ((el i 0)::cap) (I<|p i))
def anc N(l:n<=1000000)(o:N<n)(j:∀ i,i<N->p i=ac)(h:p N=aa):iB 167 [.sl nl n 1 el,.fn g cap]<|D N:=
 pL (af [.s (Sp.jL (aam nl n N el g cap) 0 N U (λi x R=>by
    exact iU (af [tT 9 ((i:Int)<n) U,iX (i:Int) n,.c<|u i U,S 16<|j i U,iN<|(i:Int)+1]) aI)
  (λx=>by
    exact iU (af [tT 9 ((N:Int)<n) U,iX (N:Int) n,.c<|u N U,S 16 h]) aI) aM:jK 2 f167 (aam nl n N el g cap 0) .ret ⟨19,ac,[(4,.e<|D N)],[]⟩) .nil])
def anf(l:n<=1000000)(j:∀ i,i<n->p i=ac):iB 167 [.sl nl n 1 el,.fn g cap]<|D (-1):=
 pL (af [.s (Sp.jL (aal nl n el g cap) 0 n U (λi h o=>by
    exact iU (af [tT 9 ((i:Int)<n) U,iX (i:Int) n,.c<|u i U,S 16<|j i U,iN<|(i:Int)+1]) aI)
  (λh=>by
    exact iU (af [tF 9 ((n:Int)<n) U]) aI) aM:jK 2 f167 (aal nl n el g cap 0) (.exit 0) ⟨19,ac,[],[]⟩) .nil])
def ane N(h:n<=1000000)(o:N<n)(j:∀ i,i<N->p i=ac)(x:p N=aa):iB 100 [.sl nl n 1 el,.fn g cap]<|I aa:=
 pL (af [.c<|anc nl n el g cap p u N h o j x,tT 8 (0<=(N:Int)) U])
section
variable(l:n<=1000000)
def Sd(j:∀ i,i<n->p i=ac):iB 100 [.sl nl n 1 el,.fn g cap]<|I ac:=
 pL (af [.c<|anf nl n el g cap p u l j,tF 8 ((0:Int)<=(-1)) U])
def anb:iB 100 [.sl nl n 1 el,.fn g cap]<|I<|(be n).any p:=by
 by_cases h:∃ i,i<n/\p i=aa
 .obtain ⟨N,k,y,z⟩:∃ N,N<n/\p N=aa/\∀ i,i<N->p i=ac:=si h;refine(ane nl n el g cap p u N l k z y).j9<|.jB ?_;rw[dh.2 ⟨N,ca.2 k,y⟩]
 .refine (Sd nl n el g cap p u l λi x=>by simpa using λq=>h ⟨i,x,q⟩).j9<|.jB ?_;rw[dt.2 λi x q=>h ⟨i,ca.1 x,q⟩]
section
variable(k:∀ i,i<n->p i=ac)
def an2:iB 306 [.sl nl n 1 el,.fn g cap]<|D (-1):=
 pL (af [.s (Sp.jL (aaX nl n el g cap) 0 n U (λi h o=>by
    exact iU (af [tT 9 ((i:Int)<n) U,iX (i:Int) n,.c<|u i U,S 16<|k i U,iN<|(i:Int)+1]) aI)
  (λh=>by
    exact iU (af [tF 9 ((n:Int)<n) U]) aI) aM:jK 2 f306 (aaX nl n el g cap 0) (.exit 0) ⟨19,ac,[],[]⟩) .nil])
def aa0:iB 271 [.sl nl n 1 el,.fn g cap]<|I ac:=
 pL (af [.c<|an2 nl n el g cap p u l k,tF 8 ((0:Int)<=(-1)) U])
end
end
end
section
variable(u:∀ i,i<n->iB g ((.agg [el i 0,el i 1,el i 2,el i 3,el i 4,el i 5,el i 6])::cap) (I<|p i))
def anv N(l:n<=1000000)(o:N<n)(j:∀ i,i<N->p i=ac)(h:p N=aa):iB 77 [.sl nl n 7 el,.fn g cap]<|D N:=
 pL (af [.s (Sp.jL (aay nl n N el g cap) 0 N U (λi x R=>by
    exact iU (af [tT 9 ((i:Int)<n) U,iX (i:Int) n,.c<|u i U,S 16<|j i U,iN<|(i:Int)+1]) aI)
  (λx=>by
    exact iU (af [tT 9 ((N:Int)<n) U,iX (N:Int) n,.c<|u N U,S 16 h]) aI) aM:jK 2 Tryz.f77 (aay nl n N el g cap 0) .ret ⟨19,ac,[(4,.e<|D N)],[]⟩) .nil])
def anx(l:n<=1000000)(j:∀ i,i<n->p i=ac):iB 77 [.sl nl n 7 el,.fn g cap]<|D (-1):=
 pL (af [.s (Sp.jL (aax nl n el g cap) 0 n U (λi h o=>by
    exact iU (af [tT 9 ((i:Int)<n) U,iX (i:Int) n,.c<|u i U,S 16<|j i U,iN<|(i:Int)+1]) aI)
  (λh=>by
    exact iU (af [tF 9 ((n:Int)<n) U]) aI) aM:jK 2 Tryz.f77 (aax nl n el g cap 0) (.exit 0) ⟨19,ac,[],[]⟩) .nil])
def anw N(h:n<=1000000)(o:N<n)(j:∀ i,i<N->p i=ac)(x:p N=aa):iB 28 [.sl nl n 7 el,.fn g cap]<|I aa:=
 pL (af [.c<|anv nl n el g cap p u N h o j x,tT 8 (0<=(N:Int)) U])
def Fw(h:n<=1000000)(j:∀ i,i<n->p i=ac):iB 28 [.sl nl n 7 el,.fn g cap]<|I ac:=
 pL (af [.c<|anx nl n el g cap p u h j,tF 8 ((0:Int)<=(-1)) U])
def Nr(l:n<=1000000):iB 28 [.sl nl n 7 el,.fn g cap]<|I<|(be n).any p:=by
 by_cases h:∃ i,i<n/\p i=aa
 .obtain ⟨N,k,y,z⟩:∃ N,N<n/\p N=aa/\∀ i,i<N->p i=ac:=si h;refine(anw nl n el g cap p u N l k z y).j9<|.jB ?_;rw[dh.2 ⟨N,ca.2 k,y⟩]
 .refine (Fw nl n el g cap p u l λi x=>by simpa using λq=>h ⟨i,x,q⟩).j9<|.jB ?_;rw[dt.2 λi x q=>h ⟨i,ca.1 x,q⟩]
end
section
variable(u:∀ i,i<n->iB g ((el i 0)::cap) (I<|p i))
def ash N(l:n<=1000000)(o:N<n)(j:∀ i,i<N->p i=ac)(h:p N=aa):iB 42 [.sl nl n 1 el,.fn g cap]<|D N:=
 pL (af [.s (Sp.jL (adP nl n N el g cap) 0 N U (λi x R=>by
    exact iU (af [tT 9 ((i:Int)<n) U,iX (i:Int) n,.c<|u i U,S 16<|j i U,iN<|(i:Int)+1]) aI)
  (λx=>by
    exact iU (af [tT 9 ((N:Int)<n) U,iX (N:Int) n,.c<|u N U,S 16 h]) aI) aM:jK 2 Tryz.f42 (adP nl n N el g cap 0) .ret ⟨19,ac,[(4,.e<|D N)],[]⟩) .nil])
def asn(l:n<=1000000)(j:∀ i,i<n->p i=ac):iB 42 [.sl nl n 1 el,.fn g cap]<|D (-1):=
 pL (af [.s (Sp.jL (adO nl n el g cap) 0 n U (λi h o=>by
    exact iU (af [tT 9 ((i:Int)<n) U,iX (i:Int) n,.c<|u i U,S 16<|j i U,iN<|(i:Int)+1]) aI)
  (λh=>by
    exact iU (af [tF 9 ((n:Int)<n) U]) aI) aM:jK 2 Tryz.f42 (adO nl n el g cap 0) (.exit 0) ⟨19,ac,[],[]⟩) .nil])
def asl N(h:n<=1000000)(o:N<n)(j:∀ i,i<N->p i=ac)(x:p N=aa):iB 10 [.sl nl n 1 el,.fn g cap]<|I aa:=
 pL (af [.c<|ash nl n el g cap p u N h o j x,tT 8 (0<=(N:Int)) U])
def KQ(h:n<=1000000)(j:∀ i,i<n->p i=ac):iB 10 [.sl nl n 1 el,.fn g cap]<|I ac:=
 pL (af [.c<|asn nl n el g cap p u h j,tF 8 ((0:Int)<=(-1)) U])
def T4(l:n<=1000000):iB 10 [.sl nl n 1 el,.fn g cap]<|I<|(be n).any p:=by
 by_cases h:∃ i,i<n/\p i=aa
 .obtain ⟨N,k,y,z⟩:∃ N,N<n/\p N=aa/\∀ i,i<N->p i=ac:=si h;refine(asl nl n el g cap p u N l k z y).j9<|.jB ?_;rw[dh.2 ⟨N,ca.2 k,y⟩]
 .refine (KQ nl n el g cap p u l λi x=>by simpa using λq=>h ⟨i,x,q⟩).j9<|.jB ?_;rw[dt.2 λi x q=>h ⟨i,ca.1 x,q⟩]
end
end
section
variable(a b:List Nat)
def abG(x:Nat):PS:=⟨67,ac,[(20,.e<|D x),(19,.e<|D a.length),(18,.e<|F a),(5,.own 17),(1,.e<|F b)],[(17,.row ac 110 (a.length+b.length) 1<|jW<|nS a b x)]⟩
def abH(x:Nat)(k:Nat):PS:=⟨67,ac,[(27,.e<|D k),(26,.e<|D b.length),(25,.e<|F b),(8,.e<|.v<|.int .u64 (((pT (a.getD x 0) x b (nS a b x) k).2:Nat):Int)),(7,.e<|.v<|.int .u32 (a.getD x 0:Int)),(6,.e<|D x),(20,.e<|D x),(19,.e<|D a.length),(18,.e<|F a),(5,.own 17),(1,.e<|F b)],[(17,.row ac 110 (a.length+b.length) 1<|jW<|(pT (a.getD x 0) x b (nS a b x) k).1)]⟩
def aoK(z:je a)(h:je b)(r:a.length<=3000)(p:b.length<=3000):iB 215 [F a,F b]<|F<|nS a b a.length:=
 pL (Y [iN<|(a.length:Int)+b.length,.a (U:0<=(((a.length:Int)+b.length):Int)/\(((a.length:Int)+b.length):Int)<=(((a.length:Int)+b.length):Int)),.a (U:((4:Nat):Int)*((a.length:Int)+b.length)<=281474976710656/\(((a.length:Int)+b.length):Int)<=9223372036854775807),.s (Sp.jL (abG a b) 0 a.length U (λx u f=>by
    have f1:=z.getD x;have s:=Ki z h x U;have g:=s.len;have n:=(Kh f1 h s.ok (i:=x) U b.length U).len;have m:=(Kh f1 h s.ok (i:=x) U b.length U).lt;exact iU (Y [tT 21 ((x:Int)<a.length) U,iX (x:Int)<|a.length,.s (Sp.jL (abH a b x) 0 b.length U (λk v l=>by
    have f2:=h.getD k;have q:=Kh f1 h s.ok (i:=x) U k U;have f3:=q.ok.getD<|x+k;have f4:=q.lt;have f5:=q.len;have f6:=abJ f1 f2;exact iU (Y [tT 28 ((k:Int)<b.length) U,iX (k:Int)<|b.length,.o 33<|.int (k:=.u64)<|rS<|a.getD x 0,.o 35<|.int (k:=.u64)<|rS<|b.getD k 0,
     rp ((a.getD x 0:Int)*(b.getD k 0:Int)),iN<|(x:Int)+k,iX ((x+k:Nat):Int)<|a.length+b.length,.a (U:(x+k)<(a.length+b.length)),.o 43<|.int (k:=.u64)<|rS<|((pT (a.getD x 0) x b (nS a b x) k).1).getD (x+k) 0,
     rp ((((a.getD x 0)*(b.getD k 0):Nat):Int)+((((pT (a.getD x 0) x b (nS a b x) k).1).getD (x+k) 0:Nat):Int)),
     rp (((((a.getD x 0)*(b.getD k 0))+(((pT (a.getD x 0) x b (nS a b x) k).1).getD (x+k) 0):Nat):Int)+(((pT (a.getD x 0) x b (nS a b x) k).2:Nat):Int)),
     iN ((x:Int)+k),.o 52<|.int (k:=.u32)<|yA<|(((a.getD x 0)*(b.getD k 0))+(((pT (a.getD x 0) x b (nS a b x) k).1).getD (x+k) 0))+(pT (a.getD x 0) x b (nS a b x) k).2,.a (U:0<=(32:Int)/\(32:Int)<=((64:Nat):Int)),.o 54<|.int (k:=.u64)<|F0<|(((a.getD x 0)*(b.getD k 0))+(((pT (a.getD x 0) x b (nS a b x) k).1).getD (x+k) 0))+(pT (a.getD x 0) x b (nS a b x) k).2,
     iX ((x+k:Nat):Int) (a.length+b.length),.a (U:(x+k)<(a.length+b.length)),iN<|(k:Int)+1]<|.e<|af [.o 8<|.int (k:=.u64) (by first|rfl|omega|(simp only[bT,bU];omega):((((((a.getD x 0)*(b.getD k 0))+(((pT (a.getD x 0) x b (nS a b x) k).1).getD (x+k) 0))+(pT (a.getD x 0) x b (nS a b x) k).2)/4294967296:Nat):Int)=(((pT (a.getD x 0) x b (nS a b x)<|k+1).2:Nat):Int)),.b 17 (T5 rfl U:Bx.le (.row ac 110 (a.length+b.length) 1 λy j=>if y=(x+k)/\0<=j/\j<0+1 then[.v<|.int .u32 ((((((a.getD x 0)*(b.getD k 0))+(((pT (a.getD x 0) x b (nS a b x) k).1).getD (x+k) 0))+(pT (a.getD x 0) x b (nS a b x) k).2)%4294967296:Nat):Int)].getD (j-0) .any else(jW<|(pT (a.getD x 0) x b (nS a b x) k).1) y j)<|.row ac 110 (a.length+b.length) 1<|jW<|(pT (a.getD x 0) x b (nS a b x)<|k+1).1)]) aI)
  (λv=>by
    exact iU (af [tF 28 ((b.length:Int)<b.length) U]) aI) aM:jK 7 f215 (abH a b x 0) (.exit 2) ⟨67,ac,[(8,.e<|.v<|.int .u64 (((pT (a.getD x 0) x b (nS a b x) b.length).2:Nat):Int)),(6,.e<|D x),(20,.e<|D x),(19,.e<|D a.length),(18,.e<|F a),(5,.own 17),(1,.e<|F b)],[(17,.row ac 110 (a.length+b.length) 1<|jW<|(pT (a.getD x 0) x b (nS a b x) b.length).1)]⟩)<|af [.o 8<|.int (k:=.u64) (by first|rfl|omega|(simp only[bT,bU];omega):0=(((pT (a.getD x 0) x b (nS a b x) 0).2:Nat):Int)),.b 17<|.refl<|.row ac 110 (a.length+b.length) 1<|jW<|(pT (a.getD x 0) x b (nS a b x) 0).1],
     iN ((x:Int)+b.length),.o 63<|.int (k:=.u32)<|yA ((pT (a.getD x 0) x b (nS a b x) b.length).2:Nat),iX ((x+b.length:Nat):Int)<|a.length+b.length,.a (U:(x+b.length)<(a.length+b.length)),iN<|(x:Int)+1]<|.e<|af [.b 17 (T5 rfl U:Bx.le (.row ac 110 (a.length+b.length) 1 λy j=>if y=(x+b.length)/\0<=j/\j<0+1 then[.v<|.int .u32 (((pT (a.getD x 0) x b (nS a b x) b.length).2%4294967296:Nat):Int)].getD (j-0) .any else(jW<|(pT (a.getD x 0) x b (nS a b x) b.length).1) y j)<|.row ac 110 (a.length+b.length) 1<|jW<|nS a b<|x+1)]) aI)
  (λu=>by
    exact iU (af [tF 21 ((a.length:Int)<a.length) U]) aI) aM:jK 3 f215 (abG a b 0) (.exit 0) ⟨67,ac,[(5,.own 17)],[(17,.row ac 110 (a.length+b.length) 1<|jW<|nS a b a.length)]⟩)<|af [.b 17 (KR rfl (λi=>by simp[nS,bB,fE];split<;>rfl):Bx.le (.row ac 110 (a.length+b.length) 1 λ_ t=>[.v<|.int .u32 0].getD t .any)<|.row ac 110 (a.length+b.length) 1<|jW<|nS a b 0)]]<|rR (F<|nS a b a.length) (CT<|by rw[(Ki z h a.length U).len]:E.le (.sl ac (a.length+b.length) 1<|jW<|nS a b a.length)<|F<|nS a b a.length))
end
section
variable(L:List Nat)
def SV(h:L.length<=256):iB 272 [F L]<|I ac:=
 iL (af [tF 5 (256<(L.length:Int)) U])
def aoJ(k:L.length<=256):iB 213 [(.sl aa 1 1 λh j=>[F L].getD (h*1+j)<|.v<|.bool ac)]<|I ac:=
 iL (af [.c (aa0 aa 1 _ 272 [] (λ_=>ac) (λi x=>(match i,x with|0,_=>SV _ k|n+1,x=>absurd x U)) U λ_ _=>rfl:iB 271 [(.sl aa 1 1 λh j=>[F L].getD (h*1+j)<|.v<|.bool ac),.fn 272 []] _)])
def abO M(k:L.length<=256)(y:M.length<=256):iB 213 [(.sl aa 2 1 λh j=>[F L,F M].getD (h*1+j)<|.v<|.bool ac)]<|I ac:=
 iL (af [.c (aa0 aa 2 _ 272 [] (λ_=>ac) (λi x=>(match i,x with|0,_=>SV _ k|1,_=>SV _ y|n+2,x=>absurd x U)) U λ_ _=>rfl:iB 271 [(.sl aa 2 1 λh j=>[F L,F M].getD (h*1+j)<|.v<|.bool ac),.fn 272 []] _)])
end
def aoL L M(h:je L)(x:je M)(z:L.length<=256)(u:M.length<=256)(f:(iy<|val L*val M).length<=256):iB 151 [F L,F M]<|.iO [F<|iy<|val L*val M,D 0]:=by
 have k:=h.iM;have b:=x.iM;have t:=qQ L;have y:=qQ M;unfold nB at t y;have m:=(Ki k b _<|bA _).ok;have e:iM (nS (iM L) (iM M) (iM L).length)=iy (val L*val M):=by rw[sX m,au6 k b,qm,qm]
 have d:(iM<|nS (iM L) (iM M) (iM L).length).length<=256:=by rw[e];exact f
 exact iL<|Y [.c<|abO L M Z Z,.c<|xi L h,.c<|xi M x,.c<|aoK (iM L) (iM M) k b U U,.c<|abM (nS (iM L) (iM M) (iM L).length) m d]<|V (.iO [F<|iM<|nS (iM L) (iM M) (iM L).length,D 0]) (.iO [F<|iy<|val L*val M,D 0])<|by rw[e]
def CF m n(h:(iy m).length<=256)(x:(iy n).length<=256)(f:(iy<|m*n).length<=256):iB 151 [F<|iy m,F<|iy n]<|.iO [F<|iy<|m*n,D 0]:=by
 have:=aoL (iy m) (iy n) (lW m) (lW n) h x (by rw[kE,kE];exact f);rwa[kE,kE]at this
def zG(m n:Nat)(h:(iy m).length<=256:=by omega)(x:n<=65536:=by omega)(k:(iy<|m*2^n).length<=256:=by omega):iB 221 [F<|iy m,D n]<|F<|iy<|m*2^n:=
 iL (af [.c<|SW m n U U U])
def TL(m n:Nat)(x:(iy m).length<=256)(y:n<=65536):iB 222 [F<|iy m,D n]<|.iO [F<|iy<|m/2^n,I<|decide (m%2^n≠0)]:=by
 have b:=zW x;have z:(iy<|m/2^n).length<=256:=ph (by have:=uX<|b6 m<|2^n;omega);have v:(iy<|m/2^n*2^n).length<=256:=ph (by have:=uX<|dB m<|2^n;omega);have r:(iy<|m/2^H m).length<=256:=ph (by have:=uX<|b6 m<|2^H m;omega);have p:(iy<|m/2^H m*2^H m).length<=256:=ph (by have:=uX<|dB m<|2^H m;omega);by_cases k:H m<n
 .have q:=Xl<|dK k;have h:=Xl<|bA<|H m;exact iL<|Y [.c<|vE m,tT 11 ((H m:Int)<n) U,.c<|vE m,.c<|SX m (H m) U U,.c<|zG (m/2^(H m))<|H m,.c<|Bu ((m/2^(H m))*2^(H m)) m]<|V (.iO [F<|iy<|m/2^(H m),I<|(kT ((m/2^(H m))*2^(H m)) m) != 0]) (.iO [F<|iy<|m/2^n,I<|decide (m%2^n≠0)])<|by rw[aba,q.1,q.2,h.1,h.2]
 .exact iL<|Y [.c<|vE m,tF 11 ((H m:Int)<n) U,.c<|SX m n U U,.c<|zG (m/2^n) n,.c<|Bu ((m/2^n)*2^n) m]<|V (.iO [F<|iy<|m/2^n,I<|(kT ((m/2^n)*2^n) m) != 0]) (.iO [F<|iy<|m/2^n,I<|decide (m%2^n≠0)])<|by rw[aba]
def pS(m:Nat)(e:Int)(p:Nat):Nat:=if jR m e p<=e then m*2^(e-jR m e p).toNat else m/2^(jR m e p-e).toNat
section
variable(m:Nat)(e:Int)(more:Bool)(p:Nat)
def uF:Bool:=if jR m e p<=e then more else(more||decide (m%2^(jR m e p-e).toNat≠0))
def ajn:pD m e more p ac=pS m e p:=by unfold pD pS;simp
end
def P6{m e more p}(k:more=aa->p<H m):pD m e more p aa=pS m e p+if uF m e more p=aa then 1 else 0:=by
 unfold pD pS uF;by_cases h:jR m e p<=e
 .have x:more=ac:=by
   cases RF:more with
   |false=>rfl
   |true=>have:=k RF;unfold jR at h;omega
  simp[h,x]
 .simp [h]
def arb m e more up p(s:(iy m).length<=256)(z:m≠0)(i:8<=p)(C:p<=512)(G:-45000<=e)(O:e<=45000)(u:more=aa->p<H m):iB 217 [.agg [F<|iy m,D e,I more],D (p:Int),I up]<|.iO [iJ<|kB ac m e more p up,D<|ko ac m e more p up]:=by
 have Q:=W4 (e:=e) aa z u (U:1<=p);have v:=W4 (e:=e) ac z u (U:1<=p);have g:=zW s;have A:=oP z;have r:=W3 (e:=e) (more:=more) (p:=p) (up:=aa) z;have q:=W3 (e:=e) (more:=more) (p:=p) (up:=ac) z;rw[ajn]at v q;have c:-16384<=(jR m e p):=by unfold jR;omega
 have n:(jR m e p)<=60000:=by unfold jR;omega
 have l:(jR m e p)<=max (e+8192) (-16384):=by unfold jR;omega
 have f:(iy<|pS m e p).length<=256:=ph;have b:(iy<|pD m e more p aa).length<=256:=ph;have f1:(iy 1).length<=256:=ph aG;cases up with
 |true=>
  exact iL (Y [.c<|vE m,iN<|e+(H m:Int),iN<|(e+(H m:Int))-(p:Int),.o 21<|oI (if(-16384)>((e+(H m:Int))-(p:Int))then(-16384)else((e+(H m:Int))-(p:Int))) (jR m e p)<|by unfold jR;split<;>omega,.j 58 ⟨84,aa,[(9,.e<|F<|iy<|pS m e p),(10,.e<|I<|uF m e more p),(8,.e<|D<|jR m e p),(6,.box 6 0),(1,.e<|D p),(2,.e<|I aa)],[(6,.cells 31 ar)]⟩
   (.w ((jR m e p)<=e)
    (λx=>by
     have t:(iy<|m*2^(e-(jR m e p)).toNat).length<=256:=by have:=f;rwa[show pS m e p=_ from bt x]at this
     exact Y [.v 29<|.bool<|bu x,iN<|e-(jR m e p),.o 35<|oI (e-(jR m e p)) ((e-(jR m e p)).toNat:Int),.c<|zG m ((e-(jR m e p)).toNat:Nat)]<|.e<|af [.o 9 (.e<|.jB<|by rw[show pS m e p=_ from bt x]:aj (F<|iy<|m*2^((e-(jR m e p)).toNat))<|F<|iy<|pS m e p),S 10 (by simp[uF,x]:more=(uF m e more p))])
    (λx=>Y [.v 29<|.bool<|bw x,iN<|(jR m e p)-e,.o 43<|oI ((jR m e p)-e) (((jR m e p)-e).toNat:Int),.c<|TL m (((jR m e p)-e).toNat:Nat) U U]<|.w (more=aa)
     (λk=>Y [S 48 k]<|.e<|af [.o 9 (.e<|.jB<|by rw[show pS m e p=_ from bn x]:aj (F<|iy<|m/2^(((jR m e p)-e).toNat))<|F<|iy<|pS m e p),S 10 (by simp[uF,x,k]:aa=(uF m e more p))])
     (λk=>Y [S 48<|bh k]<|.e<|af [.o 9 (.e<|.jB<|by rw[show pS m e p=_ from bn x]:aj (F<|iy<|m/2^(((jR m e p)-e).toNat))<|F<|iy<|pS m e p),S 10 (by simp[uF,x,k]:(decide (m%2^(((jR m e p)-e).toNat)≠0))=(uF m e more p))]))),.j 110 ⟨84,aa,[(9,.e<|F<|iy<|pD m e more p aa),(8,.e<|D<|jR m e p),(6,.box 6 0),(1,.e<|D p),(2,.e<|I aa)],[(6,.cells 31 ar)]⟩
   (.w (uF m e more p=aa)
    (λx=>by
     have t:(iy<|pS m e p+1).length<=256:=by have:=b;rwa[P6 u,bt x]at this
     exact Y [.v 55<|.bool x,.o 58<|.e uR,.c<|Kk (pS m e p) 1 U U U]<|.e<|af [.o 9 (.e<|.jB<|by rw[P6 u,bt x]:aj (F<|iy<|(pS m e p)+1)<|F<|iy<|pD m e more p aa)])
    (λx=>Y [.v 55<|.bool<|bh x]<|.e<|af [.o 9 (.e<|.jB<|by rw[P6 u,bn x,bV]:aj (F<|iy<|pS m e p)<|F<|iy<|pD m e more p aa)])),.c<|vE<|pD m e more p aa,iN<|(H<|pD m e more p aa:Int)+(jR m e p)]<|.w (16384<((H<|pD m e more p aa:Int)+(jR m e p)))
   (λy=>by
    have w:=(Q.resolve_left λh=>absurd y U).2.resolve_right λh=>absurd h.1 aG;exact Y [S 66<|bu y,.o 68<|.e xv]<|V (.iO [iJ kq,D 9]) (.iO [iJ<|kB ac m e more p aa,D<|ko ac m e more p aa])<|by rw[w.2.1,w.2.2])
   (λy=>by
    have w:=Q.resolve_right λh=>y h.1;have d:oL<|canon ac (pD m e more p aa)<|jR m e p:=by rw[<-w.2.1];exact(nV ac m e more p aa).range
    exact Y [S 66<|bw y,.c<|EG ac (pD m e more p aa) (jR m e p) U U U Z]<|V (.iO [iJ<|canon ac (pD m e more p aa)<|jR m e p,D 0]) (.iO [iJ<|kB ac m e more p aa,D<|ko ac m e more p aa])<|by rw[w.2.1,w.2.2]))
 |false=>
  exact iL (Y [.c<|vE m,iN<|e+(H m:Int),iN<|(e+(H m:Int))-(p:Int),.o 21<|oI (if(-16384)>((e+(H m:Int))-(p:Int))then(-16384)else((e+(H m:Int))-(p:Int))) (jR m e p)<|by unfold jR;split<;>omega,.j 58 ⟨84,aa,[(9,.e<|F<|iy<|pS m e p),(10,.e<|I<|uF m e more p),(8,.e<|D<|jR m e p),(6,.box 6 0),(1,.e<|D p),(2,.e<|I ac)],[(6,.cells 31 ar)]⟩
   (.w ((jR m e p)<=e)
    (λx=>by
     have t:(iy<|m*2^(e-(jR m e p)).toNat).length<=256:=by have:=f;rwa[show pS m e p=_ from bt x]at this
     exact Y [.v 29<|.bool<|bu x,iN<|e-(jR m e p),.o 35<|oI (e-(jR m e p)) ((e-(jR m e p)).toNat:Int),.c<|zG m ((e-(jR m e p)).toNat:Nat)]<|.e<|af [.o 9 (.e<|.jB<|by rw[show pS m e p=_ from bt x]:aj (F<|iy<|m*2^((e-(jR m e p)).toNat))<|F<|iy<|pS m e p),S 10 (by simp[uF,x]:more=(uF m e more p))])
    (λx=>Y [.v 29<|.bool<|bw x,iN<|(jR m e p)-e,.o 43<|oI ((jR m e p)-e) (((jR m e p)-e).toNat:Int),.c<|TL m (((jR m e p)-e).toNat:Nat) U U]<|.w (more=aa)
     (λk=>Y [S 48 k]<|.e<|af [.o 9 (.e<|.jB<|by rw[show pS m e p=_ from bn x]:aj (F<|iy<|m/2^(((jR m e p)-e).toNat))<|F<|iy<|pS m e p),S 10 (by simp[uF,x,k]:aa=(uF m e more p))])
     (λk=>Y [S 48<|bh k]<|.e<|af [.o 9 (.e<|.jB<|by rw[show pS m e p=_ from bn x]:aj (F<|iy<|m/2^(((jR m e p)-e).toNat))<|F<|iy<|pS m e p),S 10 (by simp[uF,x,k]:(decide (m%2^(((jR m e p)-e).toNat)≠0))=(uF m e more p))]))),.c<|vE<|pS m e p,iN<|(H<|pS m e p:Int)+(jR m e p)]<|.w (16384<((H<|pS m e p:Int)+(jR m e p)))
   (λy=>by
    have w:=(v.resolve_left λh=>absurd y U).2.resolve_left λh=>absurd h.1 aG;have d:oL<|canon ac ((1*2^p)-1)<|16384-(p:Int):=by rw[bU,<-w.2.1];exact(nV ac m e more p ac).range
    have a:H (1*2^p)=p+1:=by rw[bU];exact yK (bA _) (fG aG U)
    have j:(iy 1).length<=256:=ph aG;have o:(iy<|1*2^p).length<=256:=ph;have X:1<=1*2^p:=by rw[bU];exact bG aG 
    have T:(iy<|(1*2^p)-1).length<=256:=ph (by have:=uX<|dY (1*2^p) 1;omega);exact Y [S 66<|bu y,.o 70<|.e uR,.c<|zG 1 p,.o 73<|.e uR,.c<|FD (1*2^p) 1 U U,iN<|16384-(p:Int),.c<|EG ac ((1*2^p)-1) (16384-(p:Int)) U U U Z]<|V (.iO [iJ<|canon ac ((1*2^p)-1)<|16384-(p:Int),D 0]) (.iO [iJ<|kB ac m e more p ac,D<|ko ac m e more p ac])<|by rw[w.2.1,w.2.2,bU])
   (λy=>by
    have w:=v.resolve_right λh=>y h.1;have d:oL<|canon ac (pS m e p)<|jR m e p:=by rw[<-w.2.1];exact(nV ac m e more p ac).range
    exact Y [S 66<|bw y,.c<|EG ac (pS m e p) (jR m e p) U U U Z]<|V (.iO [iJ<|canon ac (pS m e p)<|jR m e p,D 0]) (.iO [iJ<|kB ac m e more p ac,D<|ko ac m e more p ac])<|by rw[w.2.1,w.2.2]))
def arc up(p:Nat)(i:8<=p)(C:p<=512):iB 217 [.agg [F<|iy 0,D 0,I ac],D (p:Int),I up]<|.iO [iJ<|kB ac 0 0 ac p up,D<|ko ac 0 0 ac p up]:=by
 have u:jR 0 0 p = -(p:Int):=by unfold jR;rw[tZ];omega
 have K:jH 0 0 p=0:=by unfold jH;rw[tZ];omega
 have h:lX 0 0 ac p up=0:=by unfold lX;rw[K];simp
 have O:nu 0 0 ac p up=ac:=by unfold nu;rw[h];simp
 have r:(ac != up)=up:=by cases up<;>rfl
 have k:kB ac 0 0 ac p up=kq:=by unfold kB;rw[r,O,bn aG,h];rfl
 have x:ko ac 0 0 ac p up=0:=by unfold ko;rw[r,O];rfl
 have z:H 0=0:=rfl;have l:(iy 0).length<=256:=by rw[pj];decide
 have y:(iy<|0*2^(0-jR 0 0 p).toNat).length<=256:=by rw[cV];exact l
 have b:H (0*2^(0-jR 0 0 p).toNat)=0:=by rw[cV];rfl
 have d:oL<|canon ac (0*2^(0-jR 0 0 p).toNat)<|jR 0 0 p:=by rw[cV];exact .inl rfl
 by_cases v:up=aa
 .exact iL<|Y [.c<|vE 0,iN<|0+(H 0:Int),iN<|(0+(H 0:Int))-(p:Int),.o 21<|oI (if(-16384)>((0+(H 0:Int))-(p:Int))then(-16384)else((0+(H 0:Int))-(p:Int))) (jR 0 0 p)<|by unfold jR;rw[tZ];split<;>omega,tT 29 ((jR 0 0 p)<=0) U,iN<|0-(jR 0 0 p),.o 35<|oI (0-(jR 0 0 p)) ((0-(jR 0 0 p)).toNat:Int),.c<|zG 0 ((0-(jR 0 0 p)).toNat:Nat),S 52 v,.c<|vE<|0*2^((0-(jR 0 0 p)).toNat),iN<|(H<|0*2^((0-(jR 0 0 p)).toNat):Int)+(jR 0 0 p),tF 66 (16384<((H<|0*2^((0-(jR 0 0 p)).toNat):Int)+(jR 0 0 p))) U,.c<|EG ac (0*2^((0-(jR 0 0 p)).toNat)) (jR 0 0 p) U U U Z]<|V (.iO [iJ<|canon ac (0*2^((0-(jR 0 0 p)).toNat))<|jR 0 0 p,D 0]) (.iO [iJ<|kB ac 0 0 ac p up,D<|ko ac 0 0 ac p up])<|by rw[k,x,cV];rfl
 .exact iL<|Y [.c<|vE 0,iN<|0+(H 0:Int),iN<|(0+(H 0:Int))-(p:Int),.o 21<|oI (if(-16384)>((0+(H 0:Int))-(p:Int))then(-16384)else((0+(H 0:Int))-(p:Int))) (jR 0 0 p)<|by unfold jR;rw[tZ];split<;>omega,tT 29 ((jR 0 0 p)<=0) U,iN<|0-(jR 0 0 p),.o 35<|oI (0-(jR 0 0 p)) ((0-(jR 0 0 p)).toNat:Int),.c<|zG 0 ((0-(jR 0 0 p)).toNat:Nat),ai 52 up<|by simpa using v,.c<|vE<|0*2^((0-(jR 0 0 p)).toNat),iN<|(H<|0*2^((0-(jR 0 0 p)).toNat):Int)+(jR 0 0 p),tF 66 (16384<((H<|0*2^((0-(jR 0 0 p)).toNat):Int)+(jR 0 0 p))) U,.c<|EG ac (0*2^((0-(jR 0 0 p)).toNat)) (jR 0 0 p) U U U Z]<|V (.iO [iJ<|canon ac (0*2^((0-(jR 0 0 p)).toNat))<|jR 0 0 p,D 0]) (.iO [iJ<|kB ac 0 0 ac p up,D<|ko ac 0 0 ac p up])<|by rw[k,x,cV];rfl
def Hw m e more up p(x:(iy m).length<=256)(h:m≠0\/m=0/\e=0/\more=ac)(i:8<=p)(C:p<=512)(l:-45000<=e)(k:e<=45000)(y:more=aa->p<H m):iB 217 [.agg [F<|iy m,D e,I more],D (p:Int),I up]<|.iO [iJ<|kB ac m e more p up,D<|ko ac m e more p up]:=by
 rcases h with h|⟨rfl,rfl,rfl⟩
 .exact arb m e more up p x h i C l k y
 .exact arc up p i C
def mi(p:Int):Bool:=decide (8<=p)&&decide (p<=512)
def sr{p}:mi p=aa↔8<=p/\p<=512:=by simp[mi]
def zh p:iB 44 [D p]<|I<|mi p:=by
 by_cases h:8<=p
 .exact iL<|Y [S 4<|bu h]<|V (I<|decide (p<=512)) (I<|mi p)<|by simp[mi,h]
 .exact iL<|Y [S 4<|bw h]<|V (I ac) (I<|mi p)<|by simp[mi,h]
def arD p:iB 235 [D p]<|I<|mi p:=by
 by_cases h:8<=p
 .exact iL<|Y [S 4<|bu h]<|V (I<|decide (p<=512)) (I<|mi p)<|by simp[mi,h]
 .exact iL<|Y [S 4<|bw h]<|V (I ac) (I<|mi p)<|by simp[mi,h]
def are p:iB 212 [D p]<|I<|mi p:=by
 by_cases h:8<=p
 .exact iL<|Y [S 4<|bu h]<|V (I<|decide (p<=512)) (I<|mi p)<|by simp[mi,h]
 .exact iL<|Y [S 4<|bw h]<|V (I ac) (I<|mi p)<|by simp[mi,h]
def adi(l:List Dy)(p:Nat)(i:Nat):PS:=⟨20,aa,[(9,.e<|D i),(8,.e<|D l.length),(7,.e<|Gz l),(0,.e<|D p)],[]⟩
def KI n m e more up p(x:(iy m).length<=256)(k:m≠0\/m=0/\e=0/\more=ac)(i:8<=p)(C:p<=512)(l:-45000<=e)(O:e<=45000)(y:more=aa->p<H m):iB 152 [I n,.agg [F<|iy m,D e,I more],D p,I up]<|.iO [iJ<|kB n m e more p up,D<|ko n m e more p up]:=by
 cases n with
 |true=>
  have h:=Xa aa m e more p up;change _/\(ko ac m e more p (!(up==aa))=0->_->ji (kB ac m e more p<|!(up==aa))=_)/\((ko ac m e more p (!(up==aa))≠0\/_)->kB ac m e more p (!(up==aa))=_)at h;have E:ko aa m e more p up=ko ac m e more p (!(up==aa)):=h.1;have v:=nV ac m e more p (!(up==aa)) (U:1<=p);by_cases z:ko ac m e more p (!(up==aa))=0
  .exact iL<|Y [.c<|Hw m e more (! (up==aa)) p U Z U U U U Z,ah 22 ((ko ac m e more p<|!(up==aa))==0)<|by rw[z];rfl,.c<|AX (kB ac m e more p<|! (up==aa)) Z]<|V (.iO [iJ<|ji<|kB ac m e more p<|!(up==aa),D<|ko ac m e more p<|!(up==aa)]) (.iO [iJ<|kB aa m e more p up,D<|ko aa m e more p up])<|by rw[h.2.1 z rfl,E]
  .exact iL<|Y [.c<|Hw m e more (! (up==aa)) p U Z U U U U Z,ai 22 ((ko ac m e more p<|!(up==aa))==0)<|by simpa using z]<|V (.iO [iJ<|kB ac m e more p<|!(up==aa),D<|ko ac m e more p<|!(up==aa)]) (.iO [iJ<|kB aa m e more p up,D<|ko aa m e more p up])<|by rw[h.2.2<|.inl z,E]
 |false=>
  have h:=Xa ac m e more p up;change _/\(ko ac m e more p (!(up==ac))=0->_->ji (kB ac m e more p<|!(up==ac))=_)/\((ko ac m e more p (!(up==ac))≠0\/_)->kB ac m e more p (!(up==ac))=_)at h;have E:ko ac m e more p up=ko ac m e more p (!(up==ac)):=h.1;have v:=nV ac m e more p (!(up==ac)) (U:1<=p);by_cases z:ko ac m e more p (!(up==ac))=0
  .exact iL<|Y [.c<|Hw m e more (! (up==ac)) p U Z U U U U Z,ah 22 ((ko ac m e more p<|!(up==ac))==0)<|by rw[z];rfl]<|V (.iO [iJ<|kB ac m e more p<|!(up==ac),D<|ko ac m e more p<|!(up==ac)]) (.iO [iJ<|kB ac m e more p up,D<|ko ac m e more p up])<|by rw[h.2.2<|.inr rfl,E]
  .exact iL<|Y [.c<|Hw m e more (! (up==ac)) p U Z U U U U Z,ai 22 ((ko ac m e more p<|!(up==ac))==0)<|by simpa using z]<|V (.iO [iJ<|kB ac m e more p<|!(up==ac),D<|ko ac m e more p<|!(up==ac)]) (.iO [iJ<|kB ac m e more p up,D<|ko ac m e more p up])<|by rw[h.2.2<|.inl z,E]
def ard d:iB 220 [iJ d]<|.agg [F<|iy d.m,D d.e,I ac]:=
 iL (.nil)
def adj(p:Nat)l(k:l.length<=1000)(h:∀ i,i<l.length->(l.getD i kq).iE)(I:8<=p)(C:p<=512):iB 150 [D p,Gz l]<|D 0:=
 iL (af [.s (Sp.jL (adi l p) 0 l.length U (λi x o=>by
    have y:=h i o;exact iU (af [tT 10 ((i:Int)<l.length) U,iX (i:Int)<|l.length,.c<|pZ (l.getD i kq) Z,iN<|(i:Int)+1]) aI)
  (λx=>by
    exact iU (af [tF 10 ((l.length:Int)<l.length) U]) aI) aM:jK 2 f150 (adi l p 0) (.exit 0) ⟨20,aa,[(0,.e<|D p)],[]⟩) .nil,.c<|are (p:Int),ah 18 (mi (p:Int))<|sr.2 ⟨U,U⟩])
def TK(p:Nat)a(x:a.iE)(I:8<=p)(C:p<=512):iB 150 [D (p:Int),Gz [a]]<|D 0:=
 adj p [a] aK (λi h=>(match i,h with
  | 0,_=>x
  |n+1,h=>absurd h aK)) I C
def AD(p:Nat)a b(x:a.iE)(k:b.iE)(I:8<=p:=by omega)(C:p<=512:=by omega):iB 150 [D (p:Int),Gz [a,b]]<|D 0:=
 adj p [a,b] aK (λi h=>(match i,h with
  | 0,_=>x
  | 1,_=>k
  |n+2,h=>absurd h aK)) I C
def Ob d(p:Nat)up(x:d.iE)(i:8<=p:=by omega)(C:p<=512:=by omega):iB 161 [iJ d,D p,I up]<|.iO [iJ<|jZ d p up,D<|kg d p up]:=by
 have l:=x.iy;have z:d.m≠0\/d.m=0/\d.e=0/\ac=ac:=by
  by_cases h:d.m=0
  .rcases x.canon with q|q
   .exact .inr ⟨h,q.2.2,rfl⟩
   .omega
  .exact .inl h
 have k:-45000<=d.e:=by have:=x.exp;omega
 have u:d.e<=45000:=by have:=x.exp;omega
 have m:ac=aa->p<H d.m:=λh=>by cases h
 exact iL<|af [.o 11<|.e<|Qg d,.c<|TK p d Z U U,tM 14 0 0,.c<|ard d,.c<|KI d.neg d.m d.e ac up p U Z U U U U Z]
def Gu{a b}:kT a b<0↔a<b:=by
 unfold kT;split
 .simp_all
 .split<;>simp_all
def Od a b(p:Nat)(y:a.iE)(z:b.iE)(u:a.m≠0)(v:b.m≠0)(s:b.iQ<=a.iQ)(z0:8<=p:=by omega)(i:p<=512:=by omega):iB 163 [iJ a,iJ b,D p]<|.iO [.agg [F<|iy<|oc a b p,D<|jV a b p,I<|pB a b p],I<|rn a b p]:=by
 have q:=OI y z u v s i;have n:=Ux y z u v s i;have⟨X,zv,zy,z4,T,R,Q,P,N⟩:=q;have⟨l,g,f⟩:=n;have⟨L,z3,G⟩:=TX a b p;have d:=y.iy;have j:=z.iy;have z2:=y.exp;have E:=z.exp;have zx:=K7 u;have C:=K7 v;have B:=zW d;have A:=zW j;have J:(iy<|a.m*2^((a.e-(jV a b p)).toNat)).length<=256:=ph (U:H (pK a b p)<=_);have o:(iy<|oB b<|jV a b p).length<=256:=ph;have K:(iy<|oz a b p).length<=256:=ph;have t:(iy<|oc a b p).length<=256:=ph;have O:(iy 1).length<=256:=ph aG;exact iL (Y [.c<|pN a Z,iN<|(Dy.iQ a)-(p:Int),iN<|((Dy.iQ a)-(p:Int))-8,.c<|pN a Z,.c<|pN b Z,
  iN ((Dy.iQ a)-(Dy.iQ b)),.j 62 ⟨109,aa,[(8,.e<|D<|jV a b p),(6,.box 6 0),(4,.box 4 0),(3,.box 3 0)],[(6,.cells 147 [.v<|.slice am 0 0,D 0,I ac]),(4,.cells 31<|lh b),(3,.cells 31<|lh a)]⟩
   (.w (((Dy.iQ a)-(Dy.iQ b))<=2)
    (λm=>Y [.v 31<|.bool<|bu m]<|.e<|af [.o 8<|oI (if b.e<(if(((Dy.iQ a)-(p:Int))-8)<a.e then(((Dy.iQ a)-(p:Int))-8)else a.e)then b.e else(if(((Dy.iQ a)-(p:Int))-8)<a.e then(((Dy.iQ a)-(p:Int))-8)else a.e)) (jV a b p)<|by unfold jV;rw[bt m];split<;>split<;>omega])
    (λm=>Y [.v 31<|.bool<|bw m]<|.e<|af [.o 8<|oI (if(((Dy.iQ a)-(p:Int))-8)<a.e then(((Dy.iQ a)-(p:Int))-8)else a.e) (jV a b p)<|by unfold jV;rw[bn m];split<;>omega])),
  iN (a.e-(jV a b p)),.o 41<|oI (a.e-(jV a b p)) ((a.e-(jV a b p)).toNat:Int),.c<|zG a.m<|(a.e-(jV a b p)).toNat,.j 92 ⟨109,aa,[(10,.e<|F<|iy<|oB b<|jV a b p),(11,.e<|I<|px b<|jV a b p),(9,.e<|F<|iy<|a.m*2^((a.e-(jV a b p)).toNat)),(8,.e<|D<|jV a b p),(6,.box 6 0),(4,.box 4 0),(3,.box 3 0)],[(6,.cells 147 [.v<|.slice am 0 0,D 0,I ac]),(4,.cells 31<|lh b),(3,.cells 31<|lh a)]⟩
   (.w ((jV a b p)<=b.e)
    (λm=>by
     have W:(iy<|b.m*2^((b.e-(jV a b p)).toNat)).length<=256:=by have:=o;rwa[show oB b (jV a b p)=_ from bt m]at this
     exact Y [.v 46<|.bool<|bu m,iN<|b.e-(jV a b p),.o 52<|oI (b.e-(jV a b p)) ((b.e-(jV a b p)).toNat:Int),.c<|zG b.m<|(b.e-(jV a b p)).toNat]<|.e<|af [.o 10 (.e<|.jB<|by rw[show oB b (jV a b p)=_ from bt m]:aj (F<|iy<|b.m*2^((b.e-(jV a b p)).toNat))<|F<|iy<|oB b<|jV a b p),S 11 (by simp[px,m]:ac=(px b<|jV a b p))])
    (λm=>Y [.v 46<|.bool<|bw m,iN<|(jV a b p)-b.e,.o 60<|oI ((jV a b p)-b.e) (((jV a b p)-b.e).toNat:Int),.c<|TL b.m (((jV a b p)-b.e).toNat) U U]<|.e<|af [.o 10 (.e<|.jB<|by rw[show oB b (jV a b p)=_ from bn m]:aj (F<|iy<|b.m/2^(((jV a b p)-b.e).toNat))<|F<|iy<|oB b<|jV a b p),S 11 (by simp[px,m]:(decide (b.m%2^(((jV a b p)-b.e).toNat)≠0))=(px b<|jV a b p))]))]<|.w (a.neg=b.neg)
  (λk=>by
   have e:rn a b p=ac:=by unfold rn;simp[k]
   have zu:oz a b p=oB b (jV a b p):=by unfold oz;simp[k]
   have M:oc a b p=pK a b p+oB b (jV a b p):=by unfold oc;rw[bt k,zu]
   have z1:pB a b p=px b (jV a b p):=by unfold pB;rw[e];simp
   have r:(iy<|(a.m*2^((a.e-(jV a b p)).toNat))+oB b (jV a b p)).length<=256:=by have:=t;rwa[M]at this
   exact Y [S 68<|bg k,.c<|Kk (a.m*2^((a.e-(jV a b p)).toNat)) (oB b<|jV a b p) U U U]<|V (.iO [.agg [F<|iy<|(a.m*2^((a.e-(jV a b p)).toNat))+(oB b<|jV a b p),D<|jV a b p,I<|px b<|jV a b p],I ac]) (.iO [.agg [F<|iy<|oc a b p,D<|jV a b p,I<|pB a b p],I<|rn a b p])<|by rw[M,z1,e];rfl)
  (λk=>Y [S 68<|bd k,.j 158 ⟨109,aa,[(10,.e<|F<|iy<|oz a b p),(11,.e<|I<|px b<|jV a b p),(9,.e<|F<|iy<|a.m*2^((a.e-(jV a b p)).toNat)),(8,.e<|D<|jV a b p),(6,.box 6 0)],[(6,.cells 147 [.v<|.slice am 0 0,D 0,I ac])]⟩
   (.w (px b (jV a b p)=aa)
    (λm=>by
     have z6:(iy<|(oB b<|jV a b p)+1).length<=256:=ph (by rw[show(oB b<|jV a b p)+1=oz a b p by(unfold oz;simp[k,m])];omega);exact Y [.v 79<|.bool m,.o 82<|.e uR,.c<|Kk (oB b<|jV a b p) 1 U U U]<|.e<|af [.o 10 (.e<|.jB<|by unfold oz;simp[k,m]:aj (F<|iy<|(oB b<|jV a b p)+1)<|F<|iy<|oz a b p)])
    (λm=>Y [.v 79<|.bool<|bh m]<|.e<|af [.o 10 (.e<|.jB<|by unfold oz;simp[k,m]:aj (F<|iy<|oB b<|jV a b p)<|F<|iy<|oz a b p)])),.c<|Bu (a.m*2^((a.e-(jV a b p)).toNat))<|oz a b p]<|.w ((kT (a.m*2^((a.e-(jV a b p)).toNat))<|oz a b p)<0)
   (λx=>by
    have c:pK a b p<oz a b p:=Gu.1 x;have e:rn a b p=aa:=by unfold rn;simp[k,c]
    have M:oc a b p=oz a b p-pK a b p:=by unfold oc;rw[bn k,bt c]
    have z1:pB a b p=ac:=by unfold pB;rw[e];simp
    have r:(iy<|oz a b p-(a.m*2^((a.e-(jV a b p)).toNat))).length<=256:=by have:=t;rwa[M]at this
    have w:(a.m*2^((a.e-(jV a b p)).toNat))<=oz a b p:=dK c;exact Y [S 89<|bu x,.c<|FD (oz a b p) (a.m*2^((a.e-(jV a b p)).toNat)) U U]<|V (.iO [.agg [F<|iy<|(oz a b p)-(a.m*2^((a.e-(jV a b p)).toNat)),D<|jV a b p,I ac],I aa]) (.iO [.agg [F<|iy<|oc a b p,D<|jV a b p,I<|pB a b p],I<|rn a b p])<|by rw[M,z1,e];rfl)
   (λx=>by
    have c:¬pK a b p<oz a b p:=λh=>x (Gu.2 h)
    have e:rn a b p=ac:=by unfold rn;simp[c]
    have M:oc a b p=pK a b p-oz a b p:=by unfold oc;rw[bn k,bn c]
    have z1:pB a b p=px b (jV a b p):=by unfold pB;rw[e];simp
    have r:(iy<|(a.m*2^((a.e-(jV a b p)).toNat))-oz a b p).length<=256:=by have:=t;rwa[M]at this
    have w:oz a b p<=(a.m*2^((a.e-(jV a b p)).toNat)):=gN c;exact Y [S 89<|bw x,.c<|FD (a.m*2^((a.e-(jV a b p)).toNat)) (oz a b p) U U]<|V (.iO [.agg [F<|iy<|(a.m*2^((a.e-(jV a b p)).toNat))-(oz a b p),D<|jV a b p,I<|px b<|jV a b p],I ac]) (.iO [.agg [F<|iy<|oc a b p,D<|jV a b p,I<|pB a b p],I<|rn a b p])<|by rw[M,z1,e];rfl)))
def Ee p up:jZ kq p up=kq/\kg kq p up=0:=by
 have K:jH 0 0 p=0:=by unfold jH;rw[tZ];omega
 have h:∀ o,lX 0 0 ac p o=0:=by intro o;unfold lX;rw[K];simp
 have O:∀ o,nu 0 0 ac p o=ac:=by intro o;unfold nu;rw[h];simp
 unfold jZ kg kB ko;simp only[kq,O,h];exact⟨rfl,rfl⟩
section
variable(a b:Dy)(p:Nat)(up:Bool)(i:a.iE)(o:b.iE)(h:8<=p)(C:p<=512)
def ade:iB 97 [iJ a,iJ b,D p,I up]<|.iO [iJ<|jZ (jl a b) p up,D<|kg (jl a b) p up]:=by
 by_cases x:a.m=0
 .have e:jl a b=b:=by unfold jl;rw[bt x]
  exact iL<|Y [.o 16<|.e<|Ac a b,.c<|AD p a b Z Z,tM 19 0 0,S 26<|tS<|sF.2 x,.c<|Ob b p up Z]<|V (.iO [iJ<|jZ b p up,D<|kg b p up]) (.iO [iJ<|jZ (jl a b) p up,D<|kg (jl a b) p up])<|by rw[e]
 .by_cases k:b.m=0
  .have e:jl a b=a:=by unfold jl;rw[bn x,bt k]
   exact iL<|Y [.o 16<|.e<|Ac a b,.c<|AD p a b Z Z,tM 19 0 0,S 26<|oo<|qg x,S 37<|tS<|sF.2 k,.c<|Ob a p up Z]<|V (.iO [iJ<|jZ a p up,D<|kg a p up]) (.iO [iJ<|jZ (jl a b) p up,D<|kg (jl a b) p up])<|by rw[e]
  .by_cases t:a.iQ<b.iQ
   .have u:a.iQ<=b.iQ:= U ;have l:=ae9 (p:=p) o i k x up;have s:=OI o i k x u C;have r:=Ux o i k x u C;have⟨m,g,_,_,_,_,_,_,_⟩:=s;have f:(iy<|oc b a p).length<=256:=ph;have j:=r.2.2;have d:-45000<=jV b a p:= U ;have c:jV b a p<=45000:= U ;by_cases h:oc b a p=0
    .by_cases y:pB b a p=aa
     .have z:oc b a p≠0:=by intro q;have:=j y;rw[q,tZ]at this;omega
      exact absurd h z
     .replace h:oc b a p=0/\pB b a p=ac:=⟨h,by simpa using y⟩
      have G:jl a b=kq:=by rw[Uw x k];exact l.1 h
      exact iL<|Y [.o 16<|.e<|Ac a b,.c<|AD p a b Z Z,tM 19 0 0,S 26<|oo<|qg x,S 37<|oo<|qg k,.c<|pN a Z,.c<|pN b Z,S 48<|bu t,.c<|Od b a p Z Z Z Z Z,S 61<|tS<|sF.2 h.1,S 64<|h.2,.o 67<|.e xv]<|V (.iO [iJ kq,D 0]) (.iO [iJ<|jZ (jl a b) p up,D<|kg (jl a b) p up])<|by rw[G,(Ee p up).1,(Ee p up).2]
    .have z:oc b a p≠0\/oc b a p=0/\jV b a p=0/\pB b a p=ac:=.inl h;have⟨v,n⟩:=l.2 λq=>h q.1;rw[<-Uw x k]at v n;exact iL<|Y [.o 16<|.e<|Ac a b,.c<|AD p a b Z Z,tM 19 0 0,S 26<|oo<|qg x,S 37<|oo<|qg k,.c<|pN a Z,.c<|pN b Z,S 48<|bu t,.c<|Od b a p Z Z Z Z Z,S 61<|oo<|qg h,.c<|KI (! (b.neg==(rn b a p))) (oc b a p) (jV b a p) (pB b a p) up p U Z U U U U Z]<|V (.iO [iJ<|kB (!(b.neg==(rn b a p))) (oc b a p) (jV b a p) (pB b a p) p up,D<|ko (!(b.neg==(rn b a p))) (oc b a p) (jV b a p) (pB b a p) p up]) (.iO [iJ<|jZ (jl a b) p up,D<|kg (jl a b) p up])<|by rw[<-v,<-n];rfl
   .have u:b.iQ<=a.iQ:= U ;have l:=ae9 (p:=p) i o x k up;have s:=OI i o x k u C;have r:=Ux i o x k u C;have⟨m,g,_,_,_,_,_,_,_⟩:=s;have f:(iy<|oc a b p).length<=256:=ph;have j:=r.2.2;have d:-45000<=jV a b p:= U ;have c:jV a b p<=45000:= U ;by_cases h:oc a b p=0
    .by_cases y:pB a b p=aa
     .have z:oc a b p≠0:=by intro q;have:=j y;rw[q,tZ]at this;omega
      exact absurd h z
     .replace h:oc a b p=0/\pB a b p=ac:=⟨h,by simpa using y⟩
      have G:jl a b=kq:=by exact l.1 h
      exact iL<|Y [.o 16<|.e<|Ac a b,.c<|AD p a b Z Z,tM 19 0 0,S 26<|oo<|qg x,S 37<|oo<|qg k,.c<|pN a Z,.c<|pN b Z,S 48<|bw t,.c<|Od a b p Z Z Z Z Z,S 61<|tS<|sF.2 h.1,S 64<|h.2,.o 67<|.e xv]<|V (.iO [iJ kq,D 0]) (.iO [iJ<|jZ (jl a b) p up,D<|kg (jl a b) p up])<|by rw[G,(Ee p up).1,(Ee p up).2]
    .have z:oc a b p≠0\/oc a b p=0/\jV a b p=0/\pB a b p=ac:=.inl h;have⟨v,n⟩:=l.2 λq=>h q.1;exact iL<|Y [.o 16<|.e<|Ac a b,.c<|AD p a b Z Z,tM 19 0 0,S 26<|oo<|qg x,S 37<|oo<|qg k,.c<|pN a Z,.c<|pN b Z,S 48<|bw t,.c<|Od a b p Z Z Z Z Z,S 61<|oo<|qg h,.c<|KI (! (a.neg==(rn a b p))) (oc a b p) (jV a b p) (pB a b p) up p U Z U U U U Z]<|V (.iO [iJ<|kB (!(a.neg==(rn a b p))) (oc a b p) (jV a b p) (pB a b p) p up,D<|ko (!(a.neg==(rn a b p))) (oc a b p) (jV a b p) (pB a b p) p up]) (.iO [iJ<|jZ (jl a b) p up,D<|kg (jl a b) p up])<|by rw[<-v,<-n];rfl
def adk:iB 89 [iJ a,iJ b,D p,I up]<|.iO [iJ<|jZ (nY a b) p up,D<|kg (nY a b) p up]:=by
 by_cases x:a.m=0
 .have e:nY a b=kq:=by unfold nY;rw[x,cV];rfl
  exact iL<|Y [.o 16<|.e<|Ac a b,.c<|AD p a b Z Z,tM 19 0 0,S 25<|tS<|sF.2 x,.o 32<|.e xv]<|V (.iO [iJ kq,D 0]) (.iO [iJ<|jZ (nY a b) p up,D<|kg (nY a b) p up])<|by rw[e,(Ee p up).1,(Ee p up).2]
 .by_cases k:b.m=0
  .have e:nY a b=kq:=by unfold nY;rw[k,c9];rfl
   exact iL<|Y [.o 16<|.e<|Ac a b,.c<|AD p a b Z Z,tM 19 0 0,S 25<|oo<|qg x,S 30<|tS<|sF.2 k,.o 32<|.e xv]<|V (.iO [iJ kq,D 0]) (.iO [iJ<|jZ (nY a b) p up,D<|kg (nY a b) p up])<|by rw[e,(Ee p up).1,(Ee p up).2]
  .have v:=i.iy;have z:=o.iy;have u:=i.exp;have t:=o.exp;have r:=i.range.resolve_left x;have s:=o.range.resolve_left k;have n:=ahz a.m b.m;have l:(iy<|a.m*b.m).length<=256:=ph;have m:a.m*b.m≠0:=eo x k;have g:a.m*b.m≠0\/a.m*b.m=0/\a.e+b.e=0/\ac=ac:=.inl m;have f:ac=aa->p<H (a.m*b.m):=λh=>by cases h
   have⟨q,y⟩:=adK (a.neg != b.neg) up (a.m*b.m) (a.e+b.e) p m;change jZ (nY a b) p up=_ at q;change kg (nY a b) p up=_ at y;exact iL<|Y [.o 16<|.e<|Ac a b,.c<|AD p a b Z Z,tM 19 0 0,S 25<|oo<|qg x,S 30<|oo<|qg k,.c<|CF a.m b.m U U U,iN<|a.e+b.e,.c<|KI (! (a.neg==b.neg)) (a.m*b.m) (a.e+b.e) ac up p U Z U U U U Z]<|V (.iO [iJ<|kB (!(a.neg==b.neg)) (a.m*b.m) (a.e+b.e) ac p up,D<|ko (!(a.neg==b.neg)) (a.m*b.m) (a.e+b.e) ac p up]) (.iO [iJ<|jZ (nY a b) p up,D<|kg (nY a b) p up])<|by rw[q,y];rfl
end
section
variable(a b:Dy)(p:Nat)(h:a.iE)(x:b.iE)(i:8<=p)(C:p<=512)
def ara:iB 54 [iJ a,iJ b,D p]<|.iO [iJ<|jZ (jl a b) p ac,D<|kg (jl a b) p ac]:=
 iL (af [.c<|ade a b p ac Z Z U U])
def adb:iB 55 [iJ a,iJ b,D p]<|.iO [iJ<|jZ (jl a b) p aa,D<|kg (jl a b) p aa]:=
 iL (af [.c<|ade a b p aa Z Z U U])
def N9:iB 47 [iJ a,iJ b,D p]<|.iO [iJ<|jZ (nY a b) p ac,D<|kg (nY a b) p ac]:=
 iL (af [.c<|adk a b p ac Z Z U U])
def Oa:iB 48 [iJ a,iJ b,D p]<|.iO [iJ<|jZ (nY a b) p aa,D<|kg (nY a b) p aa]:=
 iL (af [.c<|adk a b p aa Z Z U U])
end
end Go.Proofs.YthalchiobglflaaGreatDoor
namespace Go.Proofs.YthalchiobglflaaGreatDoor.Fp
def anI{c V P q}(k:0<P)(m:9223372036854775808<=V/P)(y:c<4294967296*V)(l:q<=4294967295)(u:q<=c/P/(V/P))(x:q=4294967295\/c/P/(V/P)<=q):
 c/V<=q/\q<=c/V+1:=by
 have Q:0<V/P:= U ;have A:0<V:=by
  apply b8;intro h;have:V=0:= U ;rw[this,im]at Q;omega
 have v:=cH V P;have t:=bO V k;have s:=cH c P;have r:=bO c k;constructor
 .
  rcases x with x|x
  .have:c/V<4294967296:=by rw[cC A];exact y
   omega
  .refine bF ?_ x;rw[dz Q,dz k,bM];have z:V/P*P<=V:=dB V P;exact bF (cR _ z)<|dB c V
 .
  have z:q*(V/P)<=c/P:=(dz Q).1 u;have g:q*V<=q*(V/P)*P+q*P:=by
   have:V<=V/P*P+P:=by rw[bL];omega
   have:=cR q this;rw[bW,<-bM]at this;exact this
  have f:q*(V/P)*P<=c:=bF (bX P z)<|dB c P;have p:(q+1)*P<=V/P*P:=bX P U;have e:V/P*P<=V:=dB V P;have d:q*V<c+V:=by
   rw[bT,bU]at p;omega
  apply b8;intro h;have a:(c/V+2)*V<=q*V:=bX V U;have E:=cH c V;have n:=bO c A;rw[bT,bL<|c/V]at a;omega
section
variable{x v w third q rest:Nat}(n:q*v+rest=x)
def ajs(k:q<=4294967295)(y:w<4294967296)(z:0<v)(h:4294967296<=rest\/q*w<=rest*4294967296+third):q<=(x*4294967296+third)/(v*4294967296+w):=by
 rw[dz U,bW,<-n];have e:q*(v*4294967296)=q*v*4294967296:=by rw[bM]
 rw[e,bT];rcases h with h|h
 .have u:q*w<=4294967295*4294967295:=dx k U ;omega
 .omega
def Xf(s:0<v)(h:rest*4294967296+third<q*w):
 (x*4294967296+third)/(v*4294967296+w)<=q-1/\0<q/\(q-1)*v+(rest+v)=x:=by
 have k:0<q:=by
  apply b8;intro p;have:q=0:= U ;subst this;rw[cV]at h;omega
 obtain⟨r,rfl⟩:∃ r,q=r+1:=⟨q-1,U⟩
 refine⟨?_,k,?_⟩
 .have e:(r+1)*(v*4294967296+w)=(r+1)*v*4294967296+(r+1)*w:=by rw[bW,<-bM]
  have y:((r+1)*v+rest)*4294967296=(r+1)*v*4294967296+rest*4294967296:=bT _ _ _;have:(x*4294967296+third)/(v*4294967296+w)<r+1:=by
   have d:0<v*4294967296+w:= U ;have u:x*4294967296=(r+1)*v*4294967296+rest*4294967296:=n▸y;refine(cC d).2 ?_;rw[e,u];clear e y u d n k;generalize (r+1)*v=a at *
   generalize (r+1)*w=z at *
   exact Nat.add_lt_add_left h _|>λh=>by rw[<-cU]at h;exact h
  omega
 .have t:(r+1)*v=r*v+v:=awu r v;rw[eD];rw[t]at n;clear t h k;generalize r*v=a at *
  omega
end
def aju{x v w third}(k:0<v)(t:third<4294967296):(x*4294967296+third)/(v*4294967296+w)<=x/v:=by
 have h:(x*4294967296+third)/(v*4294967296+w)<=(x*4294967296+third)/(v*4294967296):=awv U U;refine bF h ?_;rw[bL v,<-df];have:(x*4294967296+third)/4294967296=x:= U ;rw[this];exact bA _
structure AR(O0:List Nat)(j q:Nat)(V:List Nat)(k:Nat)(O:List Nat)(c b:Nat):Prop where
 len:O.length=O0.length
 ok:je O
 vl:val O+q*(4294967296^j*val (V.take k))=val O0+4294967296^(j+k)*(c+b)
 qX:∀ i,j+k<=i->O.getD i 0=O0.getD i 0
 Wj:c<4294967296
 VX:b<=1
def AR.start{O}(h:je O)j q V:AR O j q V 0 O 0 0:=
 ⟨rfl,h,by simp[val],λ_ _=>rfl,aG,aG⟩
def auA{q y c b u}(h:q<=4294967295)(x:y<4294967296)(k:c<4294967296)(v:b<=1)(t:u<4294967296):
 q*y+c<18446744073709551616/\(q*y+c)/4294967296<4294967296 /\
 ((u+18446744073709551616-(q*y+c)%4294967296-b)%18446744073709551616)/9223372036854775808<=1 /\
 ((u+18446744073709551616-(q*y+c)%4294967296-b)%18446744073709551616)%4294967296+(q*y+c)%4294967296+b =
  u+4294967296*(((u+18446744073709551616-(q*y+c)%4294967296-b)%18446744073709551616)/9223372036854775808):=by
 have s:q*y<=4294967295*4294967295:=dx h U;generalize q*y=z at *
 omega
def AR.step{y V O j q k c b}(h:AR y j q V k O c b){u b'}(m:k<V.length)(l:j+V.length<y.length)(z:u<4294967296)(v:(q*V.getD k 0+c)/4294967296<4294967296)(t:b'<=1)(d:u+(q*V.getD k 0+c)%4294967296+b=O.getD (j+k) 0+4294967296*b'):
 AR y j q V (k+1) (O.set (j+k) u) ((q*V.getD k 0+c)/4294967296) b':=by
 have s:j+k<O.length:=by rw[h.len];omega
 refine⟨by rw[de];exact h.len,h.ok.set _ z,?_,λi g=>?_,v,t⟩
 .have e:=ek (q*V.getD k 0+c) 4294967296;have f:=BM (x:=u) s;have r:=h.vl;have p:u+(q*V.getD k 0+c)+b=O.getD (j+k) 0+4294967296*((q*V.getD k 0+c)/4294967296+b'):= U ;have n:=congrArg (4294967296^(j+k) * ·) p;simp only[bW]at n;rw[yD,bW<|4294967296^j,bW q,<-bM (4294967296^j),<-bC,show q*(4294967296^(j+k)*V.getD k 0)=4294967296^(j+k)*(q*V.getD k 0)from dp _ _ _,
   show j+(k+1)=j+k+1 from rfl,bI,bM,bW 4294967296,bW<|4294967296^(j+k)]
  rw[bW]at r;omega
 .rw [yY U];exact h.qX i U 
def AR.J4{k V O j q c b}(h:AR k j q V V.length O c b)(u:j+V.length<k.length){t}(v:t=(O.getD (j+V.length) 0+18446744073709551616-c-b)%18446744073709551616):
 (O.set (j+V.length)<|t%4294967296).length=k.length/\je (O.set (j+V.length)<|t%4294967296)/\t/9223372036854775808<=1 /\
 val (O.set (j+V.length)<|t%4294967296)+q*(4294967296^j*val V)=val k+4294967296^(j+V.length+1)*(t/9223372036854775808) /\
 ∀ i,j+V.length<i->(O.set (j+V.length)<|t%4294967296).getD i 0=k.getD i 0:=by
 have s:j+V.length<O.length:=by rw[h.len];omega
 have r:=h.Wj;have p:=h.VX;have n:=h.ok.getD<|j+V.length;have d:t%4294967296+c+b=O.getD (j+V.length) 0+4294967296*(t/9223372036854775808):= U ;refine⟨by rw[de];exact h.len,h.ok.set _<|bO _ aG,U,?_,λi m=>by rw[yY U];exact h.qX i U⟩;have l:=BM (x:=t%4294967296) s;have y:=h.vl;rw[dV]at y;have z:=congrArg (4294967296^(j+V.length) * ·) d;simp only[bW]at z;rw[bI,bM];rw[bW]at y;omega
structure AP(O0:List Nat)(j:Nat)(V:List Nat)(k:Nat)(O:List Nat)(c:Nat):Prop where
 len:O.length=O0.length
 ok:je O
 vl:val O+4294967296^(j+k)*c=val O0+4294967296^j*val (V.take k)
 qX:∀ i,j+k<=i->O.getD i 0=O0.getD i 0
 PJ:c<=1
def AP.start{O}(h:je O)j V:AP O j V 0 O 0:=
 ⟨rfl,h,by simp[val],λ_ _=>rfl,aG⟩
def AP.step{y V O j k c}(h:AP y j V k O c)(z:je V)(v:k<V.length)(t:j+V.length<y.length):
 AP y j V (k+1) (O.set (j+k)<|(O.getD (j+k) 0+V.getD k 0+c)%4294967296) ((O.getD (j+k) 0+V.getD k 0+c)/4294967296):=by
 have s:j+k<O.length:=by rw[h.len];omega
 have r:=h.ok.getD<|j+k;have q:=z.getD k;have p:=h.PJ;refine⟨by rw[de];exact h.len,h.ok.set _<|bO _ aG,?_,λi n=>by rw[yY U];exact h.qX i U,U⟩;have m:=BM (x:=(O.getD (j+k) 0+V.getD k 0+c)%4294967296) s;have l:=h.vl;have u:=congrArg (4294967296^(j+k) * ·)<|ek (O.getD (j+k) 0+V.getD k 0+c) 4294967296;simp only[bW]at u;rw[yD,bW<|4294967296^j,<-bM (4294967296^j),<-bC,show j+(k+1)=j+k+1 from rfl,bI,bM];omega
def AP.J4{k V O j c}(h:AP k j V V.length O c)(u:j+V.length<k.length):
 (O.set (j+V.length)<|(O.getD (j+V.length) 0+c)%4294967296).length=k.length/\je (O.set (j+V.length)<|(O.getD (j+V.length) 0+c)%4294967296) /\
 (∃ κ,κ<=1/\val (O.set (j+V.length)<|(O.getD (j+V.length) 0+c)%4294967296)+4294967296^(j+V.length+1)*κ=val k+4294967296^j*val V) /\
 ∀ i,j+V.length<i->(O.set (j+V.length)<|(O.getD (j+V.length) 0+c)%4294967296).getD i 0=k.getD i 0:=by
 have s:j+V.length<O.length:=by rw[h.len];omega
 have v:=h.ok.getD<|j+V.length;have t:=h.PJ;refine⟨by rw[de];exact h.len,h.ok.set _<|bO _ aG,⟨(O.getD (j+V.length) 0+c)/4294967296,U,?_⟩,λi r=>by rw[yY U];exact h.qX i U⟩;have q:=BM (x:=(O.getD (j+V.length) 0+c)%4294967296) s;have y:=h.vl;rw[dV]at y;have z:=congrArg (4294967296^(j+V.length) * ·)<|ek (O.getD (j+V.length) 0+c) 4294967296;simp only[bW]at z;rw[bI,bM];omega
section
variable{O:List Nat}(h:je O){k:Nat}
def OX(u:∀ i,k<=i->O.getD i 0=0):val O<4294967296^k:=by
 by_cases v:O.length<=k
 .exact bJ (nE h)<|bR aG v
 .rw [Iq O k];have:val (O.drop k)=0:=by
   rw[Lb];intro x t;have⟨i,y⟩:=dJ.1 t;rw[e9]at y;have:=u (k+i) U;rw[bB,y]at this;exact this
  rw[this,c9,bV];have z:=nE<|h.take k;rw[cz,dE U]at z;exact z
def auL(v:val O<4294967296^k){i}(z:k<=i):O.getD i 0=0:=by
 have y:val (O.drop k)=0:=by rw[La h,cG v]
 rw[Lb]at y;rw[bB];cases hg:O[i]? with
 |none=>rfl
 |some x=>exact y x<|dJ.2 ⟨i-k,by rw[e9,(U:k+(i-k)=i)];exact hg⟩
end
def Xg{u k V P x}(y:0<P)(z:0<V)(h:k+x*(P*V)=u)(r:u/P/V<=x):x=u/P/V/\k<V*P:=by
 have t:x*V<=u/P:=by
  rw[dz y,bM,bL V P];omega
 have q:x<=u/P/V:=(dz z).2 t;have v:x=u/P/V:= U ;refine⟨v,?_⟩;have p:=cH u P;have n:=bO u y;have e:=cH (u/P) V;have s:=bO (u/P) z;rw[<-v]at e;have m:P*(u/P)=x*(P*V)+P*(u/P%V):=by
  rw[<-e,bW,e,bL V x,dp]
 have l:P*(u/P%V)+P<=V*P:=by
  rw[bL V P,<-Nat.mul_succ];exact cR P s
 omega
def ajt{u z k V P R x κ}(v:0<P)(r:0<V)(h:z+x*(P*V)=u+R)(n:z<R)(p:x<=u/P/V+1)(l:κ<=1)(g:k+R*κ=z+P*V)(f:k<R):0<x/\x-1=u/P/V/\k+(x-1)*(P*V)=u/\k<V*P:=by
 have m:u/P<x*V:=by
  rw[cC v,bM,bL V P];omega
 have D:u/P/V<x:=by rw[cC r];exact m
 have M:x=u/P/V+1:=Nat.le_antisymm p D;obtain⟨y,t⟩:∃ y,y=u/P/V:=⟨_,rfl⟩
 rw[<-t]at M;subst M;rw[eD];have d:(y+1)*(P*V)=y*(P*V)+P*V:=awu _ _;have c:y*(P*V)<=u:=by
  have:y*V<=u/P:=by rw[t];exact dB _ _
  have:=(dz v).1 this;rw[bM,bL V P]at this;exact this
 have s:κ=1:=by
  apply b8;intro q;obtain rfl:κ=0:= U ;omega
 subst s;have e:k+y*(P*V)=u:= U ;exact⟨U,t,e,(Xg v r e U).2⟩
def vW(q rest third v w x:Nat):Prop:=rest+x*v<4294967296/\(rest+x*v)*4294967296+third<(q-x)*w
def Xd{X q rest third v w}(hx:q*v+rest=X)(hq:q<=4294967295)(hv:2147483648<=v)(hw:w<4294967296):
 ∃ N,N<=2/\N<=q/\(∀ x,x<N->vW q rest third v w x)/\¬vW q rest third v w N/\q-N<=(X*4294967296+third)/(v*4294967296+w)/\(N=0\/(X*4294967296+third)/(v*4294967296+w)<=q-N):=by
 have stop:∀ {q' r':Nat},q'*v+r'=X->q'<=4294967295->¬(r'<4294967296/\r'*4294967296+third<q'*w)->q'<=(X*4294967296+third)/(v*4294967296+w):=fun {q' r'} h1 h2 h3=>
  ajs h1 h2 hw U (by
   by_cases hr:4294967296<=r'
   .exact .inl hr
   .refine .inr<|gN λhn=>h3 ⟨aww hr,hn⟩)
 by_cases h0:vW q rest third v w 0
 .have g0:=h0;unfold vW at g0;rw[cV,bV,dI]at g0;have⟨k1,k2,k3⟩:=Xf hx U g0.2;by_cases h1:vW q rest third v w 1
  .have g1:=h1;unfold vW at g1;rw[bU]at g1;have⟨l1,l2,l3⟩:=Xf k3 U g1.2;have h2:¬vW q rest third v w 2:=λh=>by unfold vW at h;omega
   refine⟨2,bA _,U,λx hx=>?_,h2,?_,.inr l1⟩
   .obtain rfl|rfl:x=0\/x=1:= U 
    .exact h0
    .exact h1
   .refine stop (r':=rest+v+v) l3 U λh=> U 
  .refine ⟨1,aG,k2,λx hx=>?_,h1,?_,.inr k1⟩
   .obtain rfl:x=0:= U ;exact h0
   .unfold vW at h1;rw[bU]at h1;exact stop k3 U h1
 .refine ⟨0,aG,cj _,λx hx=>absurd hx<|bD x,h0,?_,.inl rfl⟩;unfold vW at h0;rw[cV,bV,dI]at h0;exact stop hx hq h0
def ajD{a b s q r}(y:0<b)(h:r+b*2^s*q=a*2^s)(z:r<b*2^s):q=a/b/\r=a%b*2^s:=by
 have p:0<2^s:=bG aG;have u:r%2^s=0:=by
  have:=congrArg (· % 2^s) h;simp only[fR]at this;rw[bM,dp,eP]at this;exact this
 obtain⟨t,v⟩:∃ t,r=t*2^s:=⟨r/2^s,by rw[Nat.div_mul_cancel<|Nat.dvd_of_mod_eq_zero u]⟩
 subst v;have n:(t+b*q)*2^s=a*2^s:=by rw[bT,<-h,gV]
 have x:=axc p n;have k:t<b:=axd z;constructor
 .rw [<-x,fN _ _ y,cG k,ct]
 .rw [<-x,eP,bY k]
def afn{O}(h:je O){j n}(u:2<=n)(z:∀ i,j+n<i->O.getD i 0=0):
 val O/4294967296^j/4294967296^(n-2)=(O.getD (j+n) 0*4294967296+O.getD (j+n-1) 0)*4294967296+O.getD (j+n-2) 0:=by
 rw[df,<-bC,<-La h];have e:∀ (l:List Nat),je l->(∀ i,2<i->l.getD i 0=0)->val l=(l.getD 2 0*4294967296+l.getD 1 0)*4294967296+l.getD 0 0:=by
  intro l v z;rcases l with _|⟨a,_|⟨b,_|⟨c,l⟩⟩⟩
  .rfl
  .simp [val]
  .simp [val];omega
  .have:val l=0:=by
    rw[Lb];intro x y;have⟨i,k⟩:=dJ.1 y;have:=z (i+3) U;rw[bB]at this;simp only[awI,k]at this;exact this
   simp[val,this];omega
 have g:∀ i,(O.drop<|j+(n-2)).getD i 0=O.getD (j+(n-2)+i) 0:=λi=>by
  rw[bB,e9,bB]
 rw[e _ (h.drop _) (λi k=>by rw[g];exact z _ U),g,g,g];rw[(U:j+(n-2)+2=j+n),(U:j+(n-2)+1=j+n-1),(U:j+(n-2)+0=j+n-2)]
def auJ{V}(h:je V){n}(x:2<=n)(l:V.length=n):val V/4294967296^(n-2)=V.getD (n-1) 0*4294967296+V.getD (n-2) 0:=by
 have:=afn (O:=V) h (j:=0) (n:=n) x (λi k=>by rw[bB,cM U];rfl);rw[cA,eC,ct]at this;rw[this,show V.getD n 0=0 by rw[bB,cM U];rfl];omega
end Go.Proofs.YthalchiobglflaaGreatDoor.Fp
namespace Go.Proofs.YthalchiobglflaaGreatDoor
open Go.RowKit Fp
def Rx(w:ap)(b:Nat)(L:List Nat)(R:List av):Prop:=w.heap[b]? = al (.cells (pW L++R).toArray 110 (0,0))
section
variable {w w':ap} {b:Nat} {L:List Nat} {R:List av}
def Rx.lt(h:Rx w b L R):b<w.heap.size:=(cX.1 h).1
def Rx.cell(h:Rx w b L R){i}(x:i<L.length):w.cell? ⟨b,i,am⟩=al (.int .u32 (L.getD i 0:Int)):=by
 unfold Rx at h;simp only[World.cell?,h];simp[pW,x,eu]
def Rx.frozen(h:Rx w b L R)i:w.frozen? ⟨b,i,am⟩=ac:=by
 unfold Rx at h;simp[World.frozen?,h]
def Rx.set(h:Rx w b L R){i}(k:i<L.length)(x:Nat):Rx (w.setCell ⟨b,i,am⟩<|.int .u32 (x:Int)) b (L.set i x) R:=by
 unfold Rx at h ⊢;simp only[aD,fV,h];simp[pW,List.map_set,List.set_append,k]
def Rx.qX(h:Rx w b L R)(x:w'.heap[b]? = w.heap[b]?):Rx w' b L R:=by unfold Rx at h ⊢;rw[x];exact h
end
structure vP(b:Nat)(w w':World):Prop where
 below:Below b w w'
 size:w'.heap.size=w.heap.size
 oE:∀ x,x≠b->w'.heap[x]? = w.heap[x]?
def vP.refl b w:vP b w w:=⟨Below.refl _ _,rfl,λ_ _=>rfl⟩
def vP.KZ{b w w'}(h:vP b w w')i v:vP b w<|w'.setCell ⟨b,i,am⟩ v:=
 ⟨h.below.setCell (p:=⟨b,i,am⟩) (bA _) v,by
  have:(w'.setCell ⟨b,i,am⟩ v).heap.size=w'.heap.size:=by simp[aD]
  rw[this,h.size],λx k=>by
  rw[<-h.oE x k];simp only[aD,fV];rw[bn λe=>k e.symm]⟩
def UT(b:Nat)(A:Option Addr):Prop:=∀ h o s,A=al ⟨h,o,s⟩->h≠b
def Sl.oE{w w' A c b L}(h:Sl w A c L)(a:UT b A)(k:vP b w w'):Sl w' A c L:=
 ⟨h.cap,h.sE,h.ok,h.Au,λi x z=>by
  have⟨y,o,e,u,v⟩:=h.cell i x z;refine⟨y,o,e,by rw[k.size];exact u,?_⟩;rw[<-v];exact(World.cell?_of_block (w:=w) (w':=w')<|k.oE y<|a _ _ _ e)⟩
def afN{u m b:Nat}(h:m<4294967296)(x:b<=4294967296):
 IntKind.u64.wrap (IntKind.u64.wrap ((u:Int)-m)-(b:Int))=(((u+18446744073709551616-m-b)%18446744073709551616:Nat):Int):=by
 rw[IntKind.wrap_u64,IntKind.wrap_u64];omega
def auy(b j cu c q:Nat)(O V:List Nat)(R:List av)(A:Option Addr)(w:ap)(D:Rx w b O R)(B:Sl w A c V)(hA:UT b A)(I:je O)(Q:j+V.length<O.length)(K:q<=4294967295)(hl:O.length<=1000000):
 Calls prog 332 #[.slice (al ⟨b,j,am⟩) (V.length+1) cu,.slice A V.length c,.int .u64 q] w λe w'=>∃ (h:List Nat) (P:Nat),e = .returned (.bool<|decide (P=1))/\Rx w' b h R/\h.length=O.length/\je h/\P<=1 /\
  val h+q*(4294967296^j*val V)=val O+4294967296^(j+V.length+1)*P/\(∀ i,j+V.length<i->h.getD i 0=O.getD i 0)/\vP b w w':=by
 obtain⟨n,M⟩:∃ n,n=V.length:=⟨_,rfl⟩
 rw[<-M]at Q ⊢;have N:=J M;have zx:=J Q;clear M;have ke:n<=1000000:= U ;have JA:j<=1000000:= U ;clear Q;have X:=J<|AR.start I j q V;clear I;have W:=J<|vP.refl b w;have HU:=J D;clear D;go_enter func332,ntmps332;go_wp2;go_loopw [7,8,9,10,11,12,16] (λcy bo _ _ _ _ i wr=>∃ (k r p:Nat) (h:List Nat),k<=n/\i = .int .i64 k/\cy = .int .u64 r/\bo = .int .u64 p/\AR O j q V k h r p/\Rx wr b h R/\vP b w wr) (λ_ _ _ _ _ _ i _=>n-(intOf i).toNat)
 case atStart=>
  exact⟨0,0,0,O,cj _,rfl,rfl,rfl,X.out,HU.out,W.out⟩
 case round=>
  obtain⟨k,r,p,h,hk,rfl,rfl,rfl,Y,g,Z⟩:=hrel;clear X W HU;have H:=J Y;have lk:=Y.VX;have B9:=Y.Wj;have l:=J Y.len;clear Y;have L:=B.oE hA Z;by_cases iV:k<n
  .have C:k<V.length:=by rw[<-N.out];exact iV
   obtain⟨ab,ao,zy,_,c1⟩:=L.mL C;have rJ:V.getD k 0<4294967296:=B.ok.getD k;have S:V[k]=V.getD k 0:=by simp[bB,C]
   rw[S]at c1;have f:j+k<h.length:=by rw[l.out];have:=zx.out;omega
   have c2:=g.cell f;have c3:=g.frozen<|j+k;have JQ:h.getD (j+k) 0<4294967296:=H.out.ok.getD _;obtain⟨wB,lL,GW,ZS⟩:=auA K rJ B9 lk JQ;have G:=J (H.out.step (b':=((h.getD (j+k) 0+18446744073709551616-(q*V.getD k 0+r)%4294967296-p)%18446744073709551616)/9223372036854775808) C (by rw[<-N.out];exact zx.out) (bO _ aG) lL GW ZS);have d:=J (λx:Nat=>g.set f x);have o:=J λ(v:av)=>Z.KZ (j+k) v;clear g Z H f S C ZS l L;subst zy;have RC:q*V.getD k 0<=4294967295*4294967295:=dx K U;have Cq:IntKind.u64.wrap ((q:Int)*(V.getD k 0:Int))=((q*V.getD k 0:Nat):Int):=by rw[<-eH];exact rS _ 
   generalize V.getD k 0=y at *
   generalize q*y=z at *
   have uL:IntKind.u64.wrap ((z:Int)+r)=((z+r:Nat):Int):=by rw[<-fF];exact rS _ 
   generalize h.getD (j+k) 0=u at *
   generalize z+r=s at *
   have xP:bits .and .u64 (s:Int) 4294967295=((s%4294967296:Nat):Int):=by rw[zU s];omega
   have avU:s%4294967296<4294967296:=bO _ aG;have hd:(s:Int)/4294967296=((s/4294967296:Nat):Int):= U ;generalize s%4294967296=m at *
   generalize s/4294967296=s2 at *
   have JN:=afN (u:=u) (m:=m) (b:=p) U U;generalize (u+18446744073709551616-m-p)%18446744073709551616=t at *
   have Bb:(j:Int)+k=((j+k:Nat):Int):= U ;go_wp2;go_roundw
   case rel=>
    have zy:((t:Int)%4294967296)=((t%4294967296:Nat):Int):= U ;exact⟨k+1,s2,t/9223372036854775808,h.set (j+k)<|t%4294967296,U,by go_num,by go_num,by go_num,G.out,by rw[zy];exact d.out _,o.out _⟩
   case measure=>simp[intOf];omega
  .obtain rfl:k=n:= U ;have F:j+k<O.length:=zx.out;have T:=J (show AR O j q V V.length h r p by rw[<-N.out];exact H.out);have E:=T.out.J4 (t:=(h.getD (j+k) 0+18446744073709551616-r-p)%18446744073709551616) (by rw[<-N.out];exact F) (by rw[<-N.out]);rw[<-N.out]at E;have HT:=J E;clear E;have f:j+k<h.length:=by rw[l.out];exact F
   have c2:=g.cell f;have c3:=g.frozen<|j+k;have JQ:h.getD (j+k) 0<4294967296:=H.out.ok.getD _;have d:=J (λx:Nat=>g.set f x);have o:=J λ(v:av)=>Z.KZ (j+k) v;clear g Z H T f F l L;generalize h.getD (j+k) 0=u at *
   have JN:=afN (u:=u) (m:=r) (b:=p) B9 U;have htl:(u+18446744073709551616-r-p)%18446744073709551616<18446744073709551616:=bO _ aG;generalize (u+18446744073709551616-r-p)%18446744073709551616=t at *
   have Bb:(j:Int)+k=((j+k:Nat):Int):= U ;go_wp2;go_ret;have zy:((t:Int)%4294967296)=((t%4294967296:Nat):Int):= U ;obtain⟨t1,t2,t3,t4,t5⟩:=HT.out;exact⟨h.set (j+k)<|t%4294967296,t/9223372036854775808,Ol (a:=(((t:Int)/9223372036854775808)==1))<|by rw[dW,ik,awn];omega,by rw[zy];exact d.out _,t1,t2,t3,t4,t5,o.out _⟩
def abW(A:Option Addr)(c:Nat)(L:List Nat)(n:Nat)(w:ap)(u:Sl w A c L)(d:L.length<=100000000)(W:n<=65536):
 Calls prog 296 #[.slice A L.length c,.int .i64 n] w (λe w'=>∃ T v,e = .returned v/\val T=val L*2^n/\T.length=n/32+(iM L).length+1/\Ow w' w.heap.size v T/\jc w w'):=by
 have a:=J<|yi A c L w u;have l:=u.xp;have j:=qQ L;have C:=l.cap;have hL:=u.sE;unfold nB at j;have Q:=J<|qm L;generalize iM L=M at *
 obtain⟨m,t⟩:∃ m,m=M.length:=⟨_,rfl⟩
 rw[<-t]at a j C;have r:=J t;clear t;have P:=SG (n/32) (n/32+m+1) U U;rw[show((n/32:Nat):Int)=n/32 by omega,show((n/32+m+1:Nat):Int)=n/32+m+1 by omega]at P;have zx:=J<|Ow.Br w w.heap.size (n/32) (n/32+m+1) (bA _) U U;go_enter func296,ntmps296;go_wp2_with fail;refine a.out.mono ?_;rintro e w' ⟨rfl,rfl⟩;go_wp2;go_loopw [5,6,23] (λv N i o=>∃ (k q:Nat) (O:List Nat),k<=m/\i = .int .i64 k/\N = .int .u64 q/\q<2^(n%32)/\O.length=n/32+k/\val O+4294967296^(n/32+k)*q=val (M.take k)*2^(n%32)*4294967296^(n/32)/\Ow o w.heap.size v O/\jc w o) (λ_ _ i _=>m-(intOf i).toNat)
 case atStart=>
  exact⟨0,0,aA (n/32) 0,cj _,rfl,rfl,bG aG,aK,by simp[C3],zx.out,jc.alloc _ _⟩
 case round=>
  obtain⟨k,q,O,hk,rfl,rfl,X,Y,Z,y,b⟩:=hrel;have V:=J Z;have H:=J Y;have Jq:O.length<=200000000:= U ;have zy:=J X;clear Z Y X;obtain⟨OA,Oc,rfl,xQ⟩:=y.sl;by_cases iV:k<m
  .have p:k<M.length:=by have:=r.out;omega
   obtain⟨ab,ao,rfl,_,c1⟩:=(l.below b).mL p;have G:M[k]<4294967296:=l.ok.get p;have E:=J<|Um (c:=q) (s:=n%32) (n0:=n/32) p H.out V.out;generalize M[k]=x at *
   obtain⟨hw,vv,S⟩:=Un x q (n%32) G (bO _ aG) zy.out;generalize x*2^(n%32)+q=z at *
   have D:=J S;clear S;have F:O.length+[z%4294967296].length<=10000000000:= aS ;go_wp2_with (at_builtin;go_must (refine tX aJ _ _ aJ w.heap.size _ O aJ (y.alloc _) _ _ _ [z%4294967296] aJ aJ (Sl.wE _ _ (z%4294967296) U U) F (sD b.size _) ?_);intro R B g f I)
   go_roundw
   case rel=>
    exact⟨k+1,z/4294967296,O++[z%4294967296],U,by go_num,by go_num,D.out,by rw[cD,H.out];rfl,E.out,g,(b.trans<|jc.alloc _ _).own _ _ (y.alloc _) f⟩
   case measure=>simp[intOf];omega
  .obtain rfl:k=m:= U ;have F:O.length+[q].length<=10000000000:= aS ;have Nd:q<4294967296:=by
    have:=zy.out;have hp:2^(n%32)<=2^31:=bR aG U;have K:(2:Nat)^31=2147483648:= aG ;omega
   have ZR:(q:Int)%4294967296=q:= U ;go_wp2_with (at_builtin;go_must (refine tX aJ _ _ aJ w.heap.size _ O aJ (y.alloc _) _ _ _ [q] aJ aJ (Sl.wE _ _ q U U) F (sD b.size _) ?_);intro R B g f I)
   go_ret;refine⟨O++[q],R,rfl,?_,by rw[cD,H.out,<-r.out];rfl,g,(b.trans<|jc.alloc _ _).own _ _ (y.alloc _) f⟩;have h:=V.out;rw[cW<|by rw[r.out];exact bA _]at h;rw[yB,H.out,sZ,C1,c9,bV,h,<-Q.out,pI,bM,<-bC];congr 2;omega
end Go.Proofs.YthalchiobglflaaGreatDoor
namespace Go.Proofs.YthalchiobglflaaGreatDoor.Fp
def Q(n k:Nat):Nat:=n/4294967296^k%4294967296
def rU n k:Q n k<4294967296:=bO _ aG 
def EF k:Q 0 k=0:=by unfold Q;rw[im]
def pw k:0<4294967296^k:=bG aG 
def rX{L}(h:je L)k:L.getD k 0=Q (val L) k:=by
 unfold Q;rw[<-La h];by_cases x:k<L.length
 .rw [fQ x,show val (L[k]::L.drop (k+1))=L[k]+4294967296*val (L.drop<|k+1)from rfl,eP,bY<|h.get x];simp[bB,x]
 .rw [eU U,bB,cM U];rfl
def mod_succ n k:n%4294967296^(k+1)=n%4294967296^k+4294967296^k*Q n k:=by
 rw[bI,il];rfl
def yP{n k}(h:n<4294967296^k){j}(x:k<=j):Q n j=0:=by
 unfold Q;rw[cG<|bJ h<|bR aG x]
def jr(n m:Nat):List Nat:=(be m).map<|Q n
def ot n m:(jr n m).length=m:=by simp[jr]
def uZ n m:je<|jr n m:=λx h=>by
 obtain⟨k,_,rfl⟩:=dF.1 h;exact rU n k
def wQ{n m k}(h:k<m:=by omega):(jr n m).getD k 0=Q n k:=by
 simp[jr,bB,h]
def Mc m i:(jr 0 m).getD i 0=0:=by
 by_cases h:i<m
 .rw [wQ h,EF]
 .rw [bB,cM<|by rw[ot];omega];rfl
def ajv n m:jr n (m+1)=jr n m++[Q n m]:=by simp[jr,List.range_succ]
def yC n m:val (jr n m)=n%4294967296^m:=by
 induction m with
 |zero=>simp[jr,val];omega
 |succ m i=>
  rw[ajv,yB,i,ot,mod_succ];rfl
def au4{L M}(h:je L)(x:je M)(l:L.length=M.length)(v:val L=val M):L=M:=by
 apply fI l;intro i k y;have e:=rX h i;have z:=rX x i;rw[v,<-z]at e;simpa[bB,k,y]using e
def ajw{L}(h:je L):jr (val L) L.length=L:=
 au4 (uZ _ _) h (ot _ _) (by rw[yC,bY<|nE h])
def Gw{L n m}(h:je L)(l:L.length=m)(v:val L=n):jr n m=L:=by subst l v;exact ajw h
def F5{n m}(h:n<4294967296^m):iM (jr n m)=iy n:=by
 rw[sX<|uZ n m,yC,bY h]
def P8 n:jr n (iy n).length=iy n:=Gw (lW n) rfl (kE n)
def me(a b k m:Nat):List Nat:=(be m).map λj=>if j<k then Q a j else Q b j
def yh a b k m:(me a b k m).length=m:=by simp[me]
def aou{a b k m j}(h:j<m):(me a b k m).getD j 0=if j<k then Q a j else Q b j:=by
 simp[me,bB,h]
def Ke{a b k m}(h:k<m:=by omega):(me a b k m).getD k 0=Q b k:=by rw[aou h,bn<|dL k]
def Kf a b m:me a b 0 m=jr b m:=by simp[me,jr]
section
variable{a b k m:Nat}
def NF(h:m<=k):me a b k m=jr a m:=by
 unfold me jr;exact fh λj x=>bt<|bJ (ca.1 x) h
def NG:(me a b k m).set k (Q a k)=me a b (k+1) m:=by
 apply fI
 .simp [me]
 .intro j y x;have z:j<m:=by simpa[me]using x
  rw[awx];by_cases h:k=j
  .subst h;simp[me]
  .rw [bn h];simp only[me,iq,awy];by_cases q:j<k
   .rw [bt q,bt U]
   .rw [bn q,bn U]
def aov:(me a b (k+1) m).set k (Q b k)=me a b k m:=by
 apply fI
 .simp [me]
 .intro j y x;have z:j<m:=by simpa[me]using x
  rw[awx];by_cases h:k=j
  .subst h;simp[me]
  .rw [bn h];simp only[me,iq,awy];by_cases q:j<k
   .rw [bt q,bt U]
   .rw [bn q,bn U]
end
def Qb a k:a/4294967296^k=4294967296*(a/4294967296^(k+1))+Q a k:=by
 rw[bI,<-df];unfold Q;omega
def ath{a d k}(h:0<d)(v:d<4294967296):(a/4294967296^(k+1)%d*4294967296+Q a k)/d=Q (a/d) k/\(a/4294967296^(k+1)%d*4294967296+Q a k)%d=a/4294967296^k%d:=by
 have x:=Qb a k;have u:=cH (a/4294967296^(k+1)) d;have y:=bO (a/4294967296^(k+1)) h;have t:=rU a k;have e:a/4294967296^k=d*(4294967296*(a/4294967296^(k+1)/d))+(a/4294967296^(k+1)%d*4294967296+Q a k):=by
  rw[x,dp];omega
 have z:(a/4294967296^(k+1)%d*4294967296+Q a k)/d<4294967296:=by
  rw[cC h];have:=bX 4294967296<|show a/4294967296^(k+1)%d+1<=d from y;omega
 constructor
 .conv=>rhs;unfold Q
  rw[df,bL d,<-df,e,dQ h,ey,bY z]
 .rw [e,ey]
def XR{a b N}(x:a<4294967296^N)(k:b<4294967296^N)(h:∀ i,i<N->Q a i=Q b i):a=b:=by
 have e:val (jr a N)=a:=by rw[yC,bY x]
 have y:val (jr b N)=b:=by rw[yC,bY k]
 rw[<-e,<-y];congr 1;exact fh λj z=>h j<|ca.1 z
section
variable{a b N j:Nat}(z:a<4294967296^N)(u:b<4294967296^N)
def ajF(h:∀ i,j<=i->Q a i=Q b i):a/4294967296^j=b/4294967296^j:=by
 have e:∀ (n i:Nat),Q (n/4294967296^j) i=Q n (j+i):=λn i=>by unfold Q;rw[df,<-bC]
 refine XR (N:=N) (cB (b6 _ _) z) (cB (b6 _ _) u) λi _=>?_
 rw[e,e];exact h _ U 
def abd(h:∀ i,j<i->Q a i=Q b i)(d:Q a j<Q b j):a<b:=by
 have e:=ajF (j:=j+1) z u λi x=>h i x
 have k:=Qb a j;have y:=Qb b j;have:a/4294967296^j<b/4294967296^j:= U ;exact aww λl=>by
  have:=Nat.div_le_div_right (c:=4294967296^j) l;omega
end
def V6{n k}(h:n<4294967296^(k+1))(d:Q n k≠0):H n=32*k+H (Q n k):=by
 have e:Q n k=n/4294967296^k:=by
  unfold Q;rw[bY];rw[cC<|pw k,bL 4294967296,<-bI];exact h
 have x:=uC d;have y:=qW<|Q n k;have u:=oP d;obtain⟨m,z⟩:∃ m,H (Q n k)=m+1:=⟨H (Q n k)-1,U⟩
 rw[z]at x y ⊢;rw[eD]at x;rw[<-cU];have p:(4294967296:Nat)^k=2^(32*k):=pI k;refine yK ?_ ?_
 .rw [e,dz<|pw k,p,<-bC,eX]at x;exact x
 .rw [e,cC<|pw k,p,<-bC,(U:m+1+32*k=32*k+m+1)]at y;exact y
def kA(a b k:Nat):Nat:=(a%4294967296^k+b%4294967296^k)/4294967296^k
def LY a b:kA a b 0=0:=by unfold kA;simp[dq]
section
variable(a b k:Nat)
def wP:kA a b k<=1:=by
 unfold kA;have h:=bO a<|pw k;have x:=bO b<|pw k;have:(a%4294967296^k+b%4294967296^k)/4294967296^k<2:=by rw[cC<|pw k];omega
 omega
def Pp:(a+b)/4294967296^k=a/4294967296^k+b/4294967296^k+kA a b k:=by
 unfold kA;have x:=cH a<|4294967296^k;have y:=cH b<|4294967296^k;have h:=dQ (pw k) (a/4294967296^k+b/4294967296^k)<|a%4294967296^k+b%4294967296^k;rw[<-h];congr 1;rw[bW];omega
def BU:Q a k+Q b k+kA a b k=Q (a+b) k+4294967296*kA a b (k+1):=by
 have h:kA a b (k+1)=(Q a k+Q b k+kA a b k)/4294967296:=by
  conv=>lhs;unfold kA
  rw[mod_succ,mod_succ,bI,<-df];congr 1;have x:=dQ (pw k) (Q a k+Q b k)<|a%4294967296^k+b%4294967296^k;unfold kA;rw[<-x];congr 1;rw[bW];omega
 have y:Q (a+b) k=(Q a k+Q b k+kA a b k)%4294967296:=by
  conv=>lhs;unfold Q
  rw[Pp];unfold Q;omega
 rw[h,y];exact(ek _ _).symm
end
def aiC{a b k}(h:a+b<4294967296^k):kA a b k=0:=by
 have x:=Pp a b k;rw[cG h]at x;exact(Nat.add_eq_zero_iff.1 x.symm).2
def aiD{a b k}(h:a<4294967296^k)(x:b<4294967296^k):kA a b (k+1)=0:=by
 apply aiC;rw[bI];omega
def aeX{a b}(h:b<=a)k:Q a k+4294967296-Q b k-kA (a-b) b k=Q (a-b) k+4294967296*(1-kA (a-b) b (k+1)):=by
 have x:=BU (a-b) b k;rw[fP h]at x;have y:=wP (a-b) b<|k+1;have z:=rU b k;have u:=wP (a-b) b k;have v:=rU (a-b) k;omega
def atj n s k:Q (n/2^s) k=((Q n (k+s/32)+4294967296*Q n (k+s/32+1))/2^(s%32))%4294967296:=by
 have e:2^s*4294967296^k=4294967296^(k+s/32)*2^(s%32):=by
  rw[pI,pI,<-bC,<-bC];congr 1;omega
 unfold Q;rw[df,e,<-df,bI,<-df];generalize n/4294967296^(k+s/32)=N;have q:s%32<32:=bO _ aG;generalize s%32=r at *
 have h:N%4294967296+4294967296*(N/4294967296%4294967296)=N%(4294967296*4294967296):=(il).symm;rw[h];have x:N=4294967296*(N/(4294967296*4294967296))*4294967296+N%(4294967296*4294967296):=by
  have:=cH N<|4294967296*4294967296;omega
 have y:(4294967296:Nat)=2^r*2^(32-r):=by rw[<-bC,(U:r+(32-r)=32)]
 generalize N%(4294967296*4294967296)=u at *
 generalize N/(4294967296*4294967296)=t at *
 have z:N/2^r=4294967296*(t*2^(32-r))+u/2^r:=by
  rw[x];have v:4294967296*t*4294967296=2^r*(4294967296*(t*2^(32-r))):=by
   conv=>lhs;rw[bL]
   conv=>lhs;lhs;rw[y]
   rw[bM,dp<|2^(32-r),bL (2^(32-r)) t]
  rw[v,dQ<|bG aG]
 rw[z,ey]
def atg{O P x n k m}(z:x<4294967296)(h:O=jr (P*2^n) m)(u:P<4294967296^k)(v:k+n/32+1<m):
 (O.getD (k+n/32) 0)<2^(n%32)/\((O.set (k+n/32)<|O.getD (k+n/32) 0+x*2^(n%32)%4294967296).set (k+n/32+1)<|x*2^(n%32)/4294967296)=jr ((P+4294967296^k*x)*2^n) m:=by
 have j:n%32<32:=bO _ aG;have q:(2:Nat)^n=2^(n%32)*4294967296^(n/32):=by rw[pI,<-bC];congr 1;omega
 have X:2^(n%32)<=2^31:=bR aG U;have J:(2:Nat)^31=2147483648:= aG ;have r:0<2^(n%32):=bG aG;have t:je O:=by rw[h];exact uZ _ _
 have l:O.length=m:=by rw[h,ot]
 have N:P*2^n<4294967296^(k+n/32)*2^(n%32):=by
  have s:P*2^(n%32)<4294967296^k*2^(n%32):=dk u r;have p:=dk s<|pw<|n/32;rw[q,<-bM,bC,gV<|4294967296^k];exact p
 have w:P*2^n<4294967296^(k+n/32+1):=by
  rw[bI];exact bJ N<|cR _ U
 have o:O.getD (k+n/32) 0=P*2^n/4294967296^(k+n/32):=by
  rw[h,wQ];unfold Q;rw[bY];rw[cC<|pw _,bL 4294967296,<-bI];exact w
 have g:O.getD (k+n/32+1) 0=0:=by rw[h,wQ v];exact yP w<|bA _
 have f:O.getD (k+n/32) 0<2^(n%32):=by
  rw[o,cC<|pw _,bL<|2^(n%32)];exact N
 refine⟨f,?_⟩;have M:x*2^(n%32)<4294967296*2^(n%32):=dk z r;have D:O.getD (k+n/32) 0+x*2^(n%32)%4294967296<4294967296:=by
  have y:(4294967296:Nat)=2^(n%32)*2^(32-n%32):=by rw[<-bC,(U:n%32+(32-n%32)=32)]
  have Y:x*2^(n%32)%4294967296=2^(n%32)*(x%2^(32-n%32)):=by
   conv=>lhs;rw[bL];rhs;rw[y]
   exact awq _ _ _
  have d:x%2^(32-n%32)<2^(32-n%32):=bO _<|bG aG;have c:=cR (2^(n%32))<|show x%2^(32-n%32)+1<=2^(32-n%32)from d;rw[<-y,bW,cr]at c;omega
 have E:k+n/32<O.length:= U ;have B:=BM (x:=O.getD (k+n/32) 0+x*2^(n%32)%4294967296) E;have b:k+n/32+1<(O.set (k+n/32)<|O.getD (k+n/32) 0+x*2^(n%32)%4294967296).length:=by rw[de];omega
 have G:=BM (x:=x*2^(n%32)/4294967296) b;rw[yY U,g,c9,bV]at G;refine(Gw ((t.set _ D).set _ ?_) (by rw[de,de,l]) ?_).symm
 .rw [cC aG];exact bJ M<|cR _ U
 .have K:val O=P*2^n:=by
   rw[h,yC,bY];exact bJ w<|bR aG U
  rw[G];rw[K,bW]at B;have a:=ek (x*2^(n%32)) 4294967296;have e:=congrArg (4294967296^(k+n/32) * ·) a;simp only[bW]at e;have i:4294967296^(k+n/32)*(x*2^(n%32))=4294967296^k*x*2^n:=by
   rw[q,bC];simp only[bM,bL,dp]
  rw[bI,bM,bT];rw[i]at e;omega
def nW(r b k:Nat):Nat:=(2*(r%4294967296^k)+b)/4294967296^k
def P7 r b:nW r b 0=b:=by unfold nW;simp[dq]
section
variable{r b:Nat}(v:b<=1)(k:Nat)
def Ma:nW r b k<=1:=by
 unfold nW;have h:=bO r<|pw k;have:(2*(r%4294967296^k)+b)/4294967296^k<2:=by rw[cC<|pw k];omega
 omega
def Mb:Q (2*r+b) k=2*Q r k%4294967296+nW r b k/\nW r b (k+1)=Q r k/2147483648:=by
 have x:(2*r+b)/4294967296^k=2*(r/4294967296^k)+nW r b k:=by
  unfold nW;have x:=cH r<|4294967296^k;have h:=dQ (pw k) (2*(r/4294967296^k))<|2*(r%4294967296^k)+b;rw[<-h];congr 1;rw[dp];omega
 have z:=Ma (r:=r) v k;have h:nW r b (k+1)=(2*Q r k+nW r b k)/4294967296:=by
  conv=>lhs;unfold nW
  rw[mod_succ,bI,<-df];congr 1;have h:=dQ (pw k) (2*Q r k)<|2*(r%4294967296^k)+b;unfold nW;rw[<-h];congr 1;rw[dp];omega
 have y:Q (2*r+b) k=(2*Q r k+nW r b k)%4294967296:=by
  conv=>lhs;unfold Q
  rw[x];unfold Q;omega
 have u:=rU r k;constructor
 .rw [y];omega
 .rw [h];omega
end
structure uW(U0:Nat)(V:List Nat)(k m:Nat)(O Q:List Nat):Prop where
 aaS:O.length=m
 J5:Q.length=m-V.length
 CI:je O
 FG:je Q
 eq:val O+val V*val Q=U0
 lt:val O<val V*4294967296^k
 qz:∀ i,i<k->Q.getD i 0=0
def uW.step{r k m x V O Q O2}(h:uW r V (k+1) m O Q)(y:k<m-V.length)(l:O2.length=m)(z:je O2)(u:x<4294967296)(e:val O2+x*(4294967296^k*val V)=val O)(t:val O2<val V*4294967296^k):uW r V k m O2<|Q.set k x:=by
 have C:k<Q.length:=by rw[h.J5];exact y
 have v:=BM (x:=x) C;rw[h.qz k<|fg k,c9,bV]at v;refine⟨l,by rw[de];exact h.J5,z,h.FG.set _ u,?_,t,λi s=>by rw[yY U];exact h.qz i U⟩;rw[v,bW,show val V*(4294967296^k*x)=x*(4294967296^k*val V)by simp only[bL,dp,bM]];have:=h.eq;omega
section
variable{x k m:Nat}{V O Q:List Nat}(h:uW x V (k+1) m O Q)(l:je V)
def uW.zero{i}(x:k+V.length<i):O.getD i 0=0:=by
 refine auL h.CI (k:=k+V.length+1) ?_ x;refine fD h.lt ?_;have:=dk (nE l)<|pw<|k+1;rw[<-bC,(U:V.length+(k+1)=k+V.length+1)]at this;exact this
def uW.al1(n:2<=V.length)(N:2147483648<=V.getD (V.length-1) 0):
 O.getD (k+V.length) 0<=V.getD (V.length-1) 0/\∀ g,g<=4294967295 ->
  g<=((O.getD (k+V.length) 0*4294967296+O.getD (k+V.length-1) 0)*4294967296+O.getD (k+V.length-2) 0)/(V.getD (V.length-1) 0*4294967296+V.getD (V.length-2) 0) ->
  (g=4294967295\/((O.getD (k+V.length) 0*4294967296+O.getD (k+V.length-1) 0)*4294967296+O.getD (k+V.length-2) 0)/(V.getD (V.length-1) 0*4294967296+V.getD (V.length-2) 0)<=g) ->
  val O/4294967296^k/val V<=g/\g<=val O/4294967296^k/val V+1:=by
 have x:=afn h.CI (j:=k) n λi u=>h.zero l u;have t:=auJ l n rfl;have U:val O/4294967296^k<4294967296*val V:=by
  rw[cC<|pw k];have:=h.lt;rw[bI]at this;rw[show 4294967296*val V*4294967296^k=val V*(4294967296^k*4294967296)by simp only[bL,dp,bM]];exact this
 have w:=h.CI.getD<|k+V.length-1;have q:=h.CI.getD<|k+V.length-2;have p:=l.getD<|V.length-2;refine⟨?_,λg v y z=>?_⟩
 .have P:=pw<|V.length-2;have s:val V<(V.getD (V.length-1) 0*4294967296+V.getD (V.length-2) 0+1)*4294967296^(V.length-2):=by
   rw[<-t,<-cC P];omega
  have r:val O/4294967296^k/4294967296^(V.length-2)<4294967296*(V.getD (V.length-1) 0*4294967296+V.getD (V.length-2) 0+1):=by
   rw[cC P];refine bJ U ?_;rw[bM];exact cR _<|dK s
  rw[x]at r;omega
 .rw [<-x,<-t]at y z;exact anI (pw _) (by rw[t];omega) U v y z
end
def uW.acv{p k m x V O Q y}(h:uW p V (k+1) m O Q)(u:je V)(v:je y)(t:val y+x*(4294967296^k*val V)=val O+4294967296^(k+V.length+1)*1)(s:∀ i,k+V.length<i->y.getD i 0=O.getD i 0):val y<4294967296^(k+V.length+1)/\0<x:=by
 have r:val y<4294967296^(k+V.length+1):=OX v λi q=>by rw[s i U];exact h.zero u U 
 refine⟨r,?_⟩;rcases fw x with z|z
 .subst z;rw[cV]at t;omega
 .exact z
def uW.Gk{b k m x κ V O Q y O2}(h:uW b V (k+1) m O Q)(u:je V)(t:k<m-V.length)(r:je y)(v:val y+x*(4294967296^k*val V)=val O+4294967296^(k+V.length+1)*1)(s:∀ i,k+V.length<i->y.getD i 0=O.getD i 0)(f:x<=4294967295)(M:x<=val O/4294967296^k/val V+1)(A:0<val V)(p:O2.length=m)(N:je O2)(z:κ<=1)(q:val O2+4294967296^(k+V.length+1)*κ=val y+4294967296^k*val V)(L:∀ i,k+V.length<i->O2.getD i 0=y.getD i 0):uW b V k m O2<|Q.set k<|x-1:=by
 have⟨n,d⟩:=h.acv u r v s;have g:val O2<4294967296^(k+V.length+1):=OX N λi c=>by rw[L i U,s i U];exact h.zero u U 
 rw[cr]at v;have⟨_,_,e,l⟩:=ajt (pw k) A v n M z q g;exact h.step (x:=x-1) t p N U e l
def ape{L x s l}(y:je L)(f:L.length=l+1)(z:L.getD l 0=x)(m:x≠0)(d:s=32-H x):
 s<32/\(iy<|val L*2^s).length=l+1/\2147483648<=(iy<|val L*2^s).getD l 0/\4294967296^l*2147483648<=val L*2^s/\val L*2^s<4294967296^(l+1):=by
 have o:x<4294967296:=by rw[<-z];exact y.getD l
 have c:=oP m;have b:H x<=32:=mo.2 o;have t:=uC m;have r:=qW x;have e:2^(H x-1)*2^s=2147483648:=by rw[<-bC,(U:H x-1+s=31)]
 have q:2^H x*2^s=4294967296:=by rw[<-bC,(U:H x+s=32)]
 have p:0<2^s:=bG aG;have v:val L=val (L.take l)+4294967296^l*x:=by
  have:=yD L l;rw[cW U,z]at this;exact this
 have D:val (L.take l)<4294967296^l:=by
  have:=nE<|y.take l;rw[cz,dE U]at this;exact this
 have u:4294967296^l*2147483648<=val L*2^s:=by
  rw[<-e,<-bM];refine bX _ ?_;rw[v];exact bF (cR _ t)<|Nat.le_add_left _ _
 have g:val L*2^s<4294967296^(l+1):=by
  have n:4294967296^(l+1)=4294967296^l*(2^H x*2^s):=by rw[bI,q]
  rw[n,<-bM];refine dk ?_ p;rw[v];have:=cR (4294967296^l)<|show x+1<=2^H x from r;rw[bW,cr]at this;omega
 have k:(iy<|val L*2^s).length=l+1:=by
  have a:=uc g;have i:¬(iy<|val L*2^s).length<=l:=λh=>by
   have:=yg h;have:=pw l;omega
  omega
 refine⟨U,k,?_,u,g⟩;rw[rX<|lW _,kE];unfold Q;rw[bY<|by rw[cC<|pw l,bL 4294967296,<-bI];exact g,dz<|pw l,bL];exact u
def uW.start{A s V O}(x:je O)(h:val O=A*2^s){la}(k:A<4294967296^la)(l:O.length=la+1)(u:s<32)(n:1<=V.length)(e:V.length<=la)(y:4294967296^(V.length-1)*2147483648<=val V):
 uW (A*2^s) V (la+1-V.length) (la+1) O (aA (la+1-V.length) 0):=by
 refine⟨l,aK,x,je.FP _,by rw[C3,c9,bV,h],?_,λi _=>?_⟩
 .rw [h];have B:2^s<=2^31:=bR aG U;have J:(2:Nat)^31=2147483648:= aG ;rw[J]at B;have v:A*2^s<4294967296^la*2^s:=dk k<|bG aG;have t:=cR (4294967296^la) B;have z:=bX (4294967296^(la+1-V.length)) y;rw[gV,<-bC,(U:V.length-1+(la+1-V.length)=la)]at z;omega
 .rw [bB,fE];split<;>rfl
end Go.Proofs.YthalchiobglflaaGreatDoor.Fp
namespace Go.Proofs.YthalchiobglflaaGreatDoor
open Go.RowKit Fp Pu
def Ei{n L}(h:n=L.length):(E.sl ac n 1<|jW L)=F L:=by subst h;rfl
def Ip(n:Nat)(h:n<18446744073709551616:=by omega):bits .and .u64 (n:Int) 4294967295=((n%4294967296:Nat):Int):=by
 have:=UH n 4294967295 h aG;rw[show((4294967295:Int))=((4294967295:Nat):Int)from rfl,this];exact congrArg _<|awS n 32
def OS(n:Nat)(h:n<4294967296:=by omega):bits .and .u32 (n:Int) 1=((n%2:Nat):Int):=by
 have:=bits_and_u32_nat n 1 h aG;rw[show((1:Int))=((1:Nat):Int)from rfl,this];exact congrArg _<|awl n
def Ii(n:Nat)(h:n<4294967296:=by omega):IntKind.u64.wrap ((n:Int)*2^32)=((n*4294967296:Nat):Int):=by rw[IntKind.wrap_u64];omega
def Ku(a b:Nat)(x:a<4294967296)(h:b<4294967296):bits .or .u64 ((a*4294967296:Nat):Int) (b:Int)=((a*4294967296+b:Nat):Int):=by
 rw[OT _ _,ij,show a*4294967296=a*2^32 by rfl,D3 b a 32<|by simpa using h,eX]
def Ib{T n h p L x}{z:Nat}(k:n=h)(y:p<L.length)(s:L.set p z=x):Bx.le (.row ac T n 1 λi j=>if i=p/\0<=j/\j<0+1 then[.v<|.int .u32 (z:Int)].getD (j-0) .any else(jW L) i j)<|.row ac T h 1<|jW x:=s▸T5 k y
def DQ{T n y N z}(u:y=n+1)(v:z=(Q N n:Int)):
 Bx.le (.row ac T (n+1) 1 λx k=>if x<n then(jW<|jr N n) x k else(E.lO<|.sl ac 1 1 λx k=>[.v<|.int .u32 z].getD (x*1+k)<|.v<|.bool ac) (x-n) k) (.row ac T y 1<|jW<|jr N y):=by
 subst u v;refine .row rfl λi j t s=>?_
 obtain rfl:j=0:= U ;refine⟨.jB ?_,rfl⟩;by_cases h:i<n
 .rw [bt h];show E.v (.int .u32 (((jr N n).getD i 0:Nat):Int))=E.v (.int .u32 (((jr N<|n+1).getD i 0:Nat):Int));rw[wQ h,wQ t]
 .obtain rfl:i=n:= U ;rw[bn<|dL i];show E.lO _ (i-i) 0=E.v (.int .u32 (((jr N<|i+1).getD i 0:Nat):Int));rw[wQ<|fg i,dm];rfl
def Xb(q rest third v w:Nat)(x:Nat):PS:=⟨32,aa,[(0,.e<|.v<|.int .u64 ((q-x:Nat):Int)),(1,.e<|.v<|.int .u64 ((rest+(x*v):Nat):Int)),(2,.e<|.v<|.int .u32 (third:Int)),(3,.e<|.v<|.int .u32 (v:Int)),(4,.e<|.v<|.int .u32 (w:Int))],[]⟩
def aeE(L:List Nat)(d:Nat)(x:Nat):PS:=⟨34,ac,[(8,.e<|D<|(L.length:Int)-1-(x:Int)),(7,.e<|.v<|.int .u32 ((val L/4294967296^(L.length-x)%d:Nat):Int)),(6,.own 11),(0,.e<|F L),(1,.e<|.v<|.int .u32 (d:Int))],[(11,.row ac 110 L.length 1<|jW<|me 0 (val L/d) (L.length-x) L.length)]⟩
def ajy(h l d:Nat)(z:h<d)(u:l<4294967296)(x:d<4294967296):iB 355 [.v<|.int .u32 (h:Int),.v<|.int .u32 (l:Int),.v<|.int .u32 (d:Int)]<|.iO [.v<|.int .u32 (((h*4294967296+l)/d:Nat):Int),.v<|.int .u32 (((h*4294967296+l)%d:Nat):Int)]:=by
 have e:(h*4294967296+l)/d<4294967296:=by rw[cC U];omega
 have y:(h*4294967296+l)%d<4294967296:=fD (bO _ U) x;exact iL<|Y [ah 10 ((d:Int) != 0) aS,tF 14 ((d:Int)<=h) U,.o 18<|.int (k:=.u64)<|rS h,.a (U:0<=(32:Int)/\(32:Int)<=((64:Nat):Int)),.o 19<|.int (k:=.u64)<|Ii h,.o 21<|.int (k:=.u64)<|rS l,.o 22 (.int<|Ku _ _ U U:aj (.v<|.int .u64<|bits .or .u64 ((h*4294967296:Nat):Int) (l:Int))<|.v<|.int .u64 ((h*4294967296+l:Nat):Int)),.o 25<|.int (k:=.u64)<|rS d,.a (U:0<((d:Int):Int)),rp ((h*4294967296+l:Nat):Int),.o 27<|.int (k:=.u32)<|yA<|(h*4294967296+l)/d,.o 30<|.int (k:=.u64)<|rS d,.a (U:0<((d:Int):Int)),.o 32<|.int (k:=.u32)<|yA<|(h*4294967296+l)%d]<|V (.iO [.v<|.int .u32 ((((h*4294967296+l)/d)%4294967296:Nat):Int),.v<|.int .u32 ((((h*4294967296+l)%d)%4294967296:Nat):Int)]) (.iO [.v<|.int .u32 (((h*4294967296+l)/d:Nat):Int),.v<|.int .u32 (((h*4294967296+l)%d:Nat):Int)])<|by rw[bY e,bY y]
def av6 q rest third v w N(t:q<=4294967295)(r:rest<9223372036854775808)(s:third<4294967296)(p:v<4294967296)(n:w<4294967296)(y:N<=q)(j:∀ x,x<N->vW q rest third v w x)(z:¬rest+N*v<4294967296):iB 356 [.v<|.int .u64 (q:Int),.v<|.int .u64 (rest:Int),.v<|.int .u32 (third:Int),.v<|.int .u32 (v:Int),.v<|.int .u32 (w:Int)]<|.v<|.int .u64 ((q-N:Nat):Int):=
 iL (af [.s (Sp.jL (Xb q rest third v w) 0 N U (λx u f=>by
    have⟨z,g⟩:=j x U;have m:(q-x)*w<=4294967295*4294967295:=dx U U;have l:0<q-x:=by
     rcases fw (q-x)with h|h
     .rw [h,cV]at g;omega
     .exact h
    exact iU (Y [tT 12 (((rest+(x*v):Nat):Int)<4294967296) U,.o 16<|.int (k:=.u64)<|rS w,rp<|((q-x:Nat):Int)*(w:Int),.a (U:0<=(32:Int)/\(32:Int)<=((64:Nat):Int)),.o 19<|.int (k:=.u64)<|Ii<|rest+(x*v),.o 21<|.int (k:=.u64)<|rS third,.o 22 (.int<|Ku _ _ U U:aj (.v<|.int .u64<|bits .or .u64 (((rest+(x*v))*4294967296:Nat):Int) (third:Int))<|.v<|.int .u64 ((((rest+(x*v))*4294967296)+third:Nat):Int)),tT 23 (((((rest+(x*v))*4294967296)+third:Nat):Int)<(((q-x)*w:Nat):Int))<|Int.ofNat_lt.2 g,rp<|((q-x:Nat):Int)-1,.o 29<|.int (k:=.u64)<|rS v,
     rp (((rest+(x*v):Nat):Int)+v)]<|.e<|af [.o 0<|.int (k:=.u64) (by first|rfl|omega|(simp only[bT,bU];omega):(((q-x:Nat):Int)-1)=((q-(x+1):Nat):Int)),.o 1<|.int (k:=.u64) (by first|rfl|omega|(simp only[bT,bU];omega):(((rest+(x*v))+v:Nat):Int)=((rest+((x+1)*v):Nat):Int))]) aI)
  (λu=>by
    have m:(q-N)*w<=4294967295*4294967295:=dx U U;exact iU (af [tF 12 (((rest+(N*v):Nat):Int)<4294967296) U]) aI) aM:jK 1 f356 (Xb q rest third v w 0) (.exit 0) ⟨32,aa,[(0,.e<|.v<|.int .u64 ((q-N:Nat):Int))],[]⟩)<|af [.o 0<|.int (k:=.u64) (by first|rfl|omega|(simp only[bT,bU];omega):(q:Int)=((q-0:Nat):Int)),.o 1<|.int (k:=.u64) (by first|rfl|omega|(simp only[bT,bU];omega):(rest:Int)=((rest+(0*v):Nat):Int))]])
def aoN L(d:Nat)(z:je L)(l:L.length<=1000000)(u:0<d)(s:d<4294967296):iB 329 [F L,.v<|.int .u32 (d:Int)]<|.iO [F<|jr (val L/d) L.length,.v<|.int .u32 ((val L%d:Nat):Int)]:=
 pL (Y [.a (U:0<=((L.length:Int):Int)/\((L.length:Int):Int)<=((L.length:Int):Int)),.a (U:((4:Nat):Int)*(L.length:Int)<=281474976710656/\((L.length:Int):Int)<=9223372036854775807),iN<|(L.length:Int)-1,.s (Sp.jL (aeE L d) 0 L.length U (λx q m=>by
    have Z:((L.length:Int)-1-(x:Int)).toNat=L.length-1-x:= U ;have h:((L.getD ((L.length:Int)-1-(x:Int)).toNat 0:Nat):Int)=(Q (val L)<|L.length-1-x:Int):=by rw[Z,rX z]
    have y:=ath (a:=val L) (k:=L.length-1-x) u s;have r:L.length-1-x+1=L.length-x:= U ;have v:L.length-(x+1)=L.length-1-x:= U ;rw[r]at y;have n:=bO (val L/4294967296^(L.length-x)) u;have R:=rU (val L)<|L.length-1-x;have C:(me 0 (val L/d) (L.length-x) L.length).set ((L.length:Int)-1-(x:Int)).toNat ((val L/4294967296^(L.length-x)%d*4294967296+Q (val L) (L.length-1-x))/d)=me 0 (val L/d) (L.length-(x+1)) L.length:=by
     rw[Z,y.1,<-r,aov,v]
    exact iU (Y [tT 16 (0<=((L.length:Int)-1-(x:Int))) U,iX ((L.length:Int)-1-(x:Int))<|L.length,.o 26 (.int h:aj (.v<|.int .u32 ((L.getD ((L.length:Int)-1-(x:Int)).toNat 0:Nat):Int))<|.v<|.int .u32 (Q (val L)<|L.length-1-x:Int)),.c<|ajy (val L/4294967296^(L.length-x)%d) (Q (val L)<|L.length-1-x) d U U U,iX ((L.length:Int)-1-(x:Int))<|L.length,.a (U:(((L.length:Int)-1-(x:Int))).toNat<L.length),iN<|((L.length:Int)-1-(x:Int))-1]<|.e<|af [.o 8<|oI (((L.length:Int)-1-(x:Int))-1)<|(L.length:Int)-1-((x+1:Nat):Int),.o 7<|.int (k:=.u32) (by rw[y.2,v]:((((val L/4294967296^(L.length-x)%d)*4294967296+(Q (val L)<|L.length-1-x))%d:Nat):Int)=((val L/4294967296^(L.length-(x+1))%d:Nat):Int)),.b 11 (Ib rfl a7 C:Bx.le (.row ac 110 L.length 1 λt j=>if t=(((L.length:Int)-1-(x:Int))).toNat/\0<=j/\j<0+1 then[.v<|.int .u32 ((((val L/4294967296^(L.length-x)%d)*4294967296+(Q (val L)<|L.length-1-x))/d:Nat):Int)].getD (j-0) .any else(jW<|me 0 (val L/d) (L.length-x) L.length) t j)<|.row ac 110 L.length 1<|jW<|me 0 (val L/d) (L.length-(x+1)) L.length)]) aI)
  (λq=>by
    exact iU (af [tF 16 (0<=((L.length:Int)-1-(L.length:Int))) U]) aI) aM:jK 4 f329 (aeE L d 0) (.exit 0) ⟨34,ac,[(7,.e<|.v<|.int .u32 ((val L/4294967296^(L.length-L.length)%d:Nat):Int)),(6,.own 11)],[(11,.row ac 110 L.length 1<|jW<|me 0 (val L/d) (L.length-L.length) L.length)]⟩)<|af [.o 8<|oI ((L.length:Int)-1)<|(L.length:Int)-1-((0:Nat):Int),.o 7<|.int (k:=.u32) (by rw[dI,cG<|nE z,Nat.zero_mod];rfl:0=((val L/4294967296^(L.length-0)%d:Nat):Int)),.b 11 (KR rfl (λi=>by rw[dI,NF<|bA _,Mc]):Bx.le (.row ac 110 L.length 1 λ_ p=>[.v<|.int .u32 0].getD p .any)<|.row ac 110 L.length 1<|jW<|me 0 (val L/d) (L.length-0) L.length)]]<|rR (.iO [F<|jr (val L/d) L.length,.v<|.int .u32 ((val L%d:Nat):Int)]) (.iO<|.cons (by rw[dm,Kf];exact CT (ot _ _).symm)<|.cons (.jB<|by rw[dm,cA,eC]) .nil:E.le (.iO [.sl ac L.length 1<|jW<|me 0 (val L/d) (L.length-L.length) L.length,.v<|.int .u32 ((val L/4294967296^(L.length-L.length)%d:Nat):Int)])<|.iO [F<|jr (val L/d) L.length,.v<|.int .u32 ((val L%d:Nat):Int)]))
def af8(w:ap)(T S:List Nat)(e:Ending)(w':ap):Prop:=∃ A c B d,e = .returned (.tuple #[.slice A T.length c,.slice B S.length d])/\Sl w' A c T/\Sl w' B d S/\jc w w'
def Ow.rx{w b v L}(h:Ow w b v L)(l:L≠[]):∃ g cap R,v = .slice (al ⟨g,0,am⟩) L.length cap/\b<=g/\g<w.heap.size/\Rx w g L R/\L.length<=cap/\cap<=maxLen:=by
 rcases h.row.2 with⟨_,k⟩|⟨g,cap,c,rfl,y,x,q,o,p,U⟩
 .exact absurd (dM k) l
 .refine ⟨g,cap,c.toList.drop L.length,rfl,y,(cX.1 x).1,?_,q,o⟩;unfold Rx;rw[x];rw[cr]at U;rw[<-U,awF]
def Rx.sl{w b cap L R}(h:Rx w b L R)(y:je L)(c:L.length<=cap)(m:cap<=maxLen)n:Sl w (al ⟨b,0,am⟩) cap<|L.take n:=
 ⟨by rw[cz];omega,by unfold maxLen at m;omega,y.take n,(λh=>by cases h),λi x k=>by
  rw[eW]at k;split at k
  .have⟨z,s⟩:=cF.1 k;refine⟨_,_,rfl,h.lt,?_⟩;rw[ct,h.cell z];simp[bB,k]
  .cases k⟩
def aof(x:Nat)(h:x<4294967296)(w:ap):
 Calls prog 330 #[.int .u32 x] w λe w'=>e = .returned (.int .i64 ((32-H x:Nat):Int))/\w=w':=by
 have n:H x<=32:=mo.2 h;have k:=J λw=>aaR x h w;go_enter func330,ntmps330;go_wp2_with fail;refine(k.out _).mono ?_;rintro e w' ⟨rfl,rfl⟩;go_wp2;go_ret;exact⟨qi U,rfl⟩
def Xe(q rest third v h N:Nat)(w:ap)(V:q<=4294967295)(T:rest<9223372036854775808)(s:third<4294967296)(S:v<4294967296)(R:h<4294967296)(f:N<=q)(j:∀ x,x<N->vW q rest third v h x)(l:¬vW q rest third v h N):
 Calls prog 356 #[.int .u64 q,.int .u64 rest,.int .u32 third,.int .u32 v,.int .u32 h] w λe w'=>e = .returned (.int .u64 ((q-N:Nat):Int))/\w=w':=by
 have H:=J j;have t:=J l;clear j l;go_enter func356,ntmps356;go_wp2;go_loop [0,1] (λa b=>∃ k:Nat,k<=N/\a = .int .u64 ((q-k:Nat):Int)/\b = .int .u64 ((rest+k*v:Nat):Int)) (λa _=>(intOf a).toNat+0*N)
 case atStart=>exact⟨0,cj _,by go_num,by go_num⟩
 case round=>
  obtain⟨k,M,rfl,rfl⟩:=hrel;have L:(q-k)*h<=4294967295*4294967295:=dx U U;have G:(q-k)*h=(q-k)*h:=rfl;by_cases i:k<N
  .have c:=H.out k i;have o:0<q-k:= U ;have Z:rest+(k+1)*v=rest+k*v+v:=by rw[bT,bU];omega
   have X:=J Z;clear Z;unfold vW at c;have C:IntKind.u64.wrap (((q-k:Nat):Int)*(h:Int))=(((q-k)*h:Nat):Int):=by rw[<-eH];exact rS _ 
   generalize rest+k*v=y at *
   generalize Y:(q-k)*h=z at *
   have m:q-k=q-(k+1)+1:= U ;have Q:=J m;obtain⟨p,u⟩:∃ p,p=q-k:=⟨_,rfl⟩
   rw[<-u]at C o m Q ⊢;have P:=J u;have E:p<=4294967295:= U ;clear u Y m;have F:=Ii y c.1;have r:=Ku y third c.1 s;have D:=c.2;have g:=c.1;clear c;rw[show((y*4294967296:Nat):Int)=y*4294967296 by omega]at r F;have d:decide ((y:Int)<4294967296)=aa:=bu U;have I:decide ((y:Int)*4294967296+(third:Int)<z)=aa:=bu U;have B:IntKind.u64.wrap ((p:Int)-1)=((p-1:Nat):Int):=by rw[IntKind.wrap_u64];omega
   go_wp2;go_round
   case rel=>
    have A:=P.out;exact⟨k+1,U,by go_num,by rw[X.out];go_num⟩
   case measure=>simp[intOf];omega
  .obtain rfl:k=N:= U ;have n:=t.out;clear t H;unfold vW at n;have C:IntKind.u64.wrap (((q-k:Nat):Int)*(h:Int))=(((q-k)*h:Nat):Int):=by rw[<-eH];exact rS _ 
   generalize rest+k*v=y at *
   generalize (q-k)*h=z at *
   obtain⟨p,u⟩:∃ p,p=q-k:=⟨_,rfl⟩
   rw[<-u]at C ⊢;have P:=J u;clear u;by_cases g:y<4294967296
   .have F:=Ii y g;have r:=Ku y third g s;rw[show((y*4294967296:Nat):Int)=y*4294967296 by omega]at r F;have d:decide ((y:Int)<4294967296)=aa:=bu U;have I:decide ((y:Int)*4294967296+(third:Int)<z)=ac:=bw U;clear n;go_wp2;go_ret;exact⟨qi<|by rw[<-P.out],rfl⟩
   .have d:decide ((y:Int)<4294967296)=ac:=bw U ;clear n C;go_wp2;go_ret;exact⟨qi<|by rw[<-P.out],rfl⟩
def al2(i next third v k:Nat)(n:2147483648<=v)(G:v<4294967296)(b:next<4294967296)(s:third<4294967296)(t:k<4294967296)(a:i<=v):
 ∃ g,g<=4294967295/\g<=((i*4294967296+next)*4294967296+third)/(v*4294967296+k)/\(g=4294967295\/((i*4294967296+next)*4294967296+third)/(v*4294967296+k)<=g) /\
  ∀ w,Calls prog 331 #[.int .u32 i,.int .u32 next,.int .u32 third,.int .u32 v,.int .u32 k] w λe w'=>e = .returned (.int .u64 (g:Int))/\∃ m,w'=w.drewN m:=by
 by_cases V:v<=i
 .obtain ⟨N,p,o,T,z,u,y⟩:=Xd (X:=i*4294967296+next) (q:=4294967295) (rest:=(i-v)*4294967296+next+v) (third:=third) (v:=v) (w:=k) U (bA _) n t;refine⟨4294967295-N,U,u,y.elim (λh=>.inl<|by rw[h]) .inr,λw=>?_⟩;clear u y;have H:=λw=>Xe 4294967295 ((i-v)*4294967296+next+v) third v k N w U U s G t o T z
  clear T z;obtain rfl:v=i:= U ;have Y:(v-v)*4294967296+next+v=next+v:= U 
  rw[Y,fF]at H;have D:=J H;clear H;have d:decide ((v:Int)<=v)=aa:=bu U;go_enter func331,ntmps331;go_wp2_with fail;refine(D.out _).mono ?_;rintro e w' ⟨rfl,rfl⟩;go_wp2;go_ret;exact⟨rfl,0,rfl⟩
 .have d:=cH (i*4294967296+next) v;have l:=bO (i*4294967296+next) (U:0<v);have f:(i*4294967296+next)/v<4294967296:=by rw[cC U];omega
  obtain⟨N,p,o,T,z,u,y⟩:=Xd (X:=i*4294967296+next) (q:=(i*4294967296+next)/v) (rest:=(i*4294967296+next)%v) (third:=third) (v:=v) (w:=k) (by rw[bL];exact d) U n t;have c:=aju (x:=i*4294967296+next) (v:=v) (w:=k) (third:=third) U s;refine⟨(i*4294967296+next)/v-N,U,u,.inr ?_,λw=>?_⟩
  .rcases y with rfl|y
   .exact c
   .exact y
  have H:=λw=>Xe ((i*4294967296+next)/v) ((i*4294967296+next)%v) third v k N w (Nat.le_of_lt_succ f) (fD l U) s G t o T z
  rw[Int.natCast_ediv,Int.natCast_emod]at H;have D:=J H;clear H u y c o T z d l f;have d:decide ((v:Int)<=i)=ac:=bw U;have F:=Ii i;have j:=Ku i next U b
  rw[show((i*4294967296:Nat):Int)=i*4294967296 by omega]at j F;have O:((i*4294967296+next:Nat):Int)<18446744073709551616:= U ;rw[show((i*4294967296+next:Nat):Int)=i*4294967296+(next:Int)by omega]at j O;have K:((v:Int)==0)=ac:= aS ;go_enter func331,ntmps331;go_wp2;go_quiet (exact Calls.quiet_of_same<|(D.out _).mono λ_ _ ⟨Z,r⟩=>⟨Z,r.symm⟩);go_wp2;go_ret;exact⟨rfl,_,rfl⟩
def Fp.jc.auN{x w w' g n}(h:jc x w)(k:vP g (w.drewN n) w')(y:x.heap.size<=g):jc x w':=
 (below_drewN h n).trans (k.below.mono y)
def Fp.jc.only{x w w' g}(h:jc x w)(k:vP g w w')(y:x.heap.size<=g):jc x w':=
 Below.trans h (k.below.mono y)
def Sl.X7{w g cap L}(h:Sl w (al ⟨g,0,am⟩) cap L){b}(x:g≠b)i v:Sl (w.setCell ⟨b,i,am⟩ v) (al ⟨g,0,am⟩) cap L:=
 h.oE (λk o _ e=>by cases e;exact x) (vP.KZ (vP.refl b w) i v)
def Sl.drewN{w A c L}(h:Sl w A c L)n:Sl (w.drewN n) A c L:=h.below<|below_drewN (Below.refl _ _) n
def aqq{P f a}{w:ap}{n v}(h:Calls P f a (w.drewN n) λe w'=>e = .returned v/\∃ m,w'=(w.drewN n).drewN m):Calls P f a (w.drewN n) λe x=>e = .returned v/\∃ m,x=w.drewN m:=
 h.mono λ_ _ ⟨k,m,y⟩=>⟨k,n+m,by rw[y,World.drewN_drewN]⟩
set_option maxRecDepth 100000 in
set_option maxHeartbeats 8000000 in
def ajG(A B:Option Addr)(c d:Nat)(L M:List Nat)(w:ap)(n z s:Nat)(Cj:n=(iM L).length)(M5:z=(iM M).length)(y9:s=32-H ((iM M).getD (z-1) 0))(hs:Sl w A c L)(hr:Sl w B d M)(ui:Tb w)(h1:L.length<=100000)(h2:M.length<=100000)(r7:val M<=val L)(hlen:2<=z):
 Calls prog 305 #[.slice A L.length c,.slice B M.length d] w (af8 w (jr (val L/val M)<|n+1-z)<|sW (s%32)<|(iy<|val L%val M*2^s).drop<|s/32):=by
 have H1:=yi A c L w hs;have H2:=yi B d M w hr;have YQ:=qQ L;unfold nB at YQ;have y4:=qQ M;unfold nB at y4;have eL:=qm L;have eM:=qm M;rw[<-eL,<-eM]at r7 ⊢;have lL:=hs.xp;have pq:=hr.xp;have QS:=CY M;have Y4:iM (iM L)=iM L:=CY L;have Y8:iM (iM M)=iM M:=CY M;have H3:=NL A B c d (iM L) (iM M) w lL pq U U;generalize iM L=X at *
 generalize iM M=Y at *
 have oQ:0<=kT (val X) (val Y):=by unfold kT;split<;>(try split)<;>omega
 generalize kT (val X) (val Y)=cm at *
 have Y6:Y.length<=X.length:=by
  apply b8;intro h;have:=OW lL.ok QS (U:X.length<Y.length);omega
 clear eL eM hs hr r7;rw[<-Cj]at Y6 H1 H3 YQ;rw[<-M5]at Y6 H2 H3 y4;have mO:Y.getD (z-1) 0≠0:=by
  have:=(Em Y).1 QS U;have e:Y.getD (z-1) 0=Y[Y.length-1]'(U):=by
   rw[bB,(U:z-1=Y.length-1)];simp[(U:Y.length-1<Y.length)]
  rw[e];exact this
 have HN:=ape pq.ok (l:=z-1) U rfl mO y9;rw[(U:z-1+1=z)]at HN;obtain⟨x,hx⟩:∃ x,x=Y.getD (z-1) 0:=⟨_,rfl⟩
 have om:x<4294967296:=by rw[hx];exact pq.ok.getD _
 have H4:=J λw=>aof x om w;rw[<-hx]at y9;rw[<-y9]at H4;obtain⟨ab,ao,rfl,hab,c1⟩:=pq.mL (i:=z-1) U;have DL:Y[z-1]'(U)=x:=by rw[hx];simp[bB,(U:z-1<Y.length)]
 rw[DL]at c1;have amM:s<32:=HN.1;have E:=J HN;have H5:=λw (h:Sl w A c X)=>abW A c X s w h U U 
 have H6:=λw (h:Sl w (al ⟨ab,ao,am⟩) d Y)=>abW (al ⟨ab,ao,am⟩) d Y s w h U U 
 rw[Y4,<-Cj,(U:s/32+n+1=n+1)]at H5;rw[Y8,<-M5,(U:s/32+z+1=z+1)]at H6;have H5h:=J H5;have H6h:=J H6;have HX:=J Cj;have HY:=J M5;have HS2:=J lL;have HR2:=J pq;have H1h:=J H1;have H2h:=J H2;have H3h:=J H3;clear H1 H2 H3 H5 H6 Y4 Y8 HN Cj M5 hx DL y9 mO lL pq QS;have Cq:(z:Int)-1=((z-1:Nat):Int):= U ;have d0:decide (cm<0)=ac:=bw U;have d2:decide ((n:Int)+1<=(n:Int))=ac:=bw U;have ri:=Hd (n+1-z) U;rw[show((n+1-z:Nat):Int)=n+1-(z:Int)by omega]at ri;have d1:((z:Int)==1)=ac:= aS ;go_enter func305,ntmps305;go_wp2_with fail;refine H1h.out.mono ?_;rintro e w' ⟨rfl,rfl⟩;go_wp2_with fail;refine H2h.out.mono ?_;rintro e w' ⟨rfl,rfl⟩;go_wp2_with fail;refine H3h.out.mono ?_;rintro e w1 ⟨rfl,lk⟩;have c2:=c1;rw[<-(lk.cell (p:=⟨ab,ao+(z-1),am⟩) hab)]at c2;go_wp2_with fail;refine(H4.out _).mono ?_;rintro e w2 ⟨rfl,rfl⟩;go_wp2_with fail;refine(H5h.out _<|HS2.out.below lk).mono ?_;rintro e w2 ⟨T,v1,he,GI,ER,mA,nx⟩;obtain⟨g,C,R,Bj,MV,Zo,YX,EU,aml⟩:=mA.rx (by intro h;rw[h]at ER;simp at ER);have Y1:=J mA.ok;rw[ER]at Bj EU;subst Bj;subst he;clear mA;have HTv:=J GI;have HTl:=J ER;clear GI ER;go_wp2_with fail;refine(H6h.out _<|(HR2.out.below lk).below nx).mono ?_;rintro e f ⟨S,v2,he,Y0,EP,mA,qu⟩;have MH:=YX.qX<|qu.block g Zo;obtain⟨g',I,R',rG,amt,avP,_,avM,_⟩:=mA.rx (by intro h;rw[h]at EP;simp at EP);obtain⟨_,_,e2,QW⟩:=mA.sl;rw[rG]at e2;cases e2;have MW:g'≠g:= U 
 have H7:=yi (al ⟨g',0,am⟩) I S f QW;have hV:iM S=iy (val Y*2^s):=by rw[sX mA.ok,Y0]
 have B7:=QW.xp;rw[hV]at H7 B7;rw[E.out.2.1,EP]at H7;rw[EP]at rG;have amh:jc w f:=(lk.trans nx).trans qu;subst rG;subst he;have H7h:=J H7;clear mA QW hV Y0 EP H7 YX nx qu;go_wp2_with fail;refine H7h.out.mono ?_;rintro e w4 ⟨rfl,rfl⟩;go_wp2;go_loop [9] (λu=>u = .slice (al ⟨g,0,am⟩) (n+1) C) (λ_=>0)
 case atStart=>rfl
 case round=>
  subst hrel;go_wp2;have vf:=Rw.Br f<|n+1-z;have M7:=E.out.2.1;have wT:=E.out.2.2.1;have ve:=E.out.2.2.2.1;have Y2:=lW<|val Y*2^s;have Q2:=kE<|val Y*2^s;rw[<-Q2]at ve;generalize iy (val Y*2^s)=V at *
  have A4:=uW.start (A:=val X) (s:=s) (V:=V) (O:=T) Y1.out HTv.out (la:=n) (by rw[HX.out];exact nE HS2.out.ok) HTl.out amM U U (by rw[M7];exact ve);have YZ:=B7.alloc<|.cells (pW<|aA (n+1-z) 0).toArray 110;have YY:Rx (f.alloc<|.cells (pW<|aA (n+1-z) 0).toArray 110) g T R:=MH.qX ((jc.alloc f _).block g<|by have:=MH.lt;omega);rw[M7]at A4;have HD0:=J A4;have HR0:=J vf;have HRx:=J YY;have N:=J YZ;have HE0:=J<|amh.trans<|jc.alloc f<|.cells (pW<|aA (n+1-z) 0).toArray 110;have zv:=J M7;have m:=J Y2;have HVv:=J Q2;have HN1:=J wT;have hgq:g<f.heap.size:=MH.lt;have Zq:w.heap.size<=g:=bF lk.size MV;clear A4 vf YY YZ B7 MH M7 Y2 Q2 wT ve HTv HTl Y1 H1h H2h H3h H4 H5h H6h H7h c1 c2 d2 ri lk MV amt Zo E HS2 HR2;go_loopw [13] (λj wr=>∃ (k:Nat) (O Q:List Nat),k<=n+1-z/\j = .int .i64 ((k:Int)-1)/\uW (val X*2^s) V k (n+1) O Q/\Rx wr g O R/\Rw wr f.heap.size Q/\Sl wr (al ⟨g',0,am⟩) I V/\jc w wr) (λj _=>(intOf j+1).toNat)
  case atStart=>
   exact⟨n+1-z,T,_,bA _,by go_num,HD0.out,HRx.out,HR0.out,N.out,HE0.out⟩
  case round=>
   clear HD0 HRx HR0 N HE0;obtain⟨k,O,Q,hk,rfl,hD,GH,QV,B7,Zf⟩:=hrel;have HE:=J Zf;have N:=J B7;have HRQ:=J QV;have HRO:=J GH;have D:=J hD;clear hD Zf;rcases k with _|t
   .have hO:=D.out.aaS;have ZT:=HRO.out.sl D.out.CI (cap:=C) U aml z;have HZ:=SY (al ⟨g,0,am⟩) C (O.take z) s wr ZT aY U;have e1:(O.take z).length=z:=by rw[cz];omega
    rw[e1]at HZ;have HZh:=J HZ;have HQs:=J (HRQ.out.sl D.out.FG<|by rw[D.out.J5];omega);have Ah:0<val V:=by
     have:=D.out.lt;rcases fw (val V)with h|h
     .rw [h,cV]at this;omega
     .exact h
    have Y5:0<val Y:=by
     rw[HVv.out]at Ah;exact Nat.pos_of_mul_pos_right Ah
    have Rg:=ajD (a:=val X) (b:=val Y) (s:=s) (q:=val Q) (r:=val O) Y5 (by rw[<-HVv.out];exact D.out.eq) (by rw[<-HVv.out];have:=D.out.lt;rw[cA,cr]at this;exact this);have DC:val (O.take z)=val O:=by
     rw[au9 D.out.CI,bY];have:=D.out.lt;rw[cA,cr]at this;refine fD this ?_;have h:=nE m.out;rw[zv.out]at h;exact h
    have YR:iM (O.take z)=iy (val X%val Y*2^s):=by rw[sX<|D.out.CI.take z,DC,Rg.2]
    rw[YR]at HZh;have MF:=D.out.J5;rw[zv.out]at MF;have YU:jr (val X/val Y) (n+1-z)=Q:=Gw D.out.FG MF Rg.1;have HQd:=J YU;generalize sW (s%32) ((iy<|val X%val Y*2^s).drop<|s/32)=Z at *
    have HQl:=J MF;clear Rg DC YR YU ZT HZ e1 MF hO Ah Y5 B7 GH QV;go_wp2_with fail;refine HZh.out.mono ?_;rintro e w5 ⟨AZ,cZ,rfl,hZs,Y9⟩;go_wp2;go_ret2;have hq:=HQs.out.below Y9;rw[HQl.out]at hq;exact⟨_,_,_,_,by rw[ot];rfl,by rw[HQd.out];exact hq,hZs,HE.out.trans Y9⟩
   .have hO:=D.out.aaS;have c4:=GH.cell (i:=t+z) U;have c5:=GH.cell (i:=t+z-1) U;have c6:=GH.cell (i:=t+z-2) U;obtain⟨_,_,e1,_,c7⟩:=B7.mL (i:=z-1) (by rw[zv.out];omega);obtain⟨_,_,e2,_,c8⟩:=B7.mL (i:=z-2) (by rw[zv.out];omega);cases e1;cases e2;rw[ct]at c7 c8;have v7:V[z-1]'(by rw[zv.out];omega)=V.getD (z-1) 0:=by simp[bB,zv.out,(U:z-1<z)]
    have v8:V[z-2]'(by rw[zv.out];omega)=V.getD (z-2) 0:=by simp[bB,zv.out,(U:z-2<z)]
    rw[v7]at c7;rw[v8]at c8;clear v7 v8;have mz:=D.out.CI;have o4:=mz.getD<|t+z;have o5:=mz.getD<|t+z-1;have o6:=mz.getD<|t+z-2;have o7:=m.out.getD<|z-1;have o8:=m.out.getD<|z-2;have hG:=D.out.al1 m.out (by rw[zv.out];omega) (by rw[zv.out];exact HN1.out);rw[zv.out]at hG;obtain⟨G,g1,g2,g3,g4⟩:=al2 (O.getD (t+z) 0) (O.getD (t+z-1) 0) (O.getD (t+z-2) 0) (V.getD (z-1) 0) (V.getD (z-2) 0) HN1.out o7 o5 o6 o8 hG.1;have HGq:=J<|hG.2 G g1 g2 g3;have HG:=J g4;clear hG g2 g3 g4 mz B7 GH QV;generalize O.getD (t+z) 0=x4 at *
    generalize O.getD (t+z-1) 0=x5 at *
    generalize O.getD (t+z-2) 0=x6 at *
    have HV1:=J (rfl:V.getD (z-1) 0=V.getD (z-1) 0);generalize hx7:V.getD (z-1) 0=x7 at *
    generalize V.getD (z-2) 0=x8 at *
    clear hx7 HV1;have i1:(((t+1:Nat):Int)-1)=(t:Int):= U ;have i2:((t:Int)+z).toNat=t+z:= U ;have i3:((t:Int)+z-1).toNat=t+z-1:= U ;have i4:((t:Int)+z-2).toNat=t+z-2:= U ;have i6:((z:Int)-2)=((z-2:Nat):Int):= U ;have p1:IntKind.i64.wrap ((t:Int)+z)=(t:Int)+z:=i64_in _;have p2:IntKind.i64.wrap ((t:Int)+z-1)=(t:Int)+z-1:=i64_in _;have p3:IntKind.i64.wrap ((t:Int)+z-2)=(t:Int)+z-2:=i64_in _;have p4:IntKind.i64.wrap ((z-1:Nat):Int)=((z-1:Nat):Int):=i64_in _;have p5:IntKind.i64.wrap ((z-2:Nat):Int)=((z-2:Nat):Int):=i64_in _;have j6:((z-1:Nat):Int)<z:= U ;have j7:((z-2:Nat):Int)<z:= U ;have j0:0<=(t:Int)+z:= U ;have j1:0<=(t:Int)+z-1:= U ;have j2:0<=(t:Int)+z-2:= U ;have j3:(t:Int)+z<n+1:= U ;have j4:(t:Int)+z-1<(n:Int)+1:= U ;have j5:(t:Int)+z-2<(n:Int)+1:= U ;rw[i1];clear i1;go_wp2;go_quiet (exact aqq<|HG.out _);go_wp2_with fail;have HTk:=auy g t (C-t) I G O V R (al ⟨g',0,am⟩) (wr.drewN nq) (HRO.out.qX rfl) (N.out.drewN nq) (λb' o _ e=>by cases e;exact MW) D.out.CI (by rw[zv.out];omega) g1 U;rw[zv.out,(U:z+1=t+z+1-t)]at HTk;refine HTk.mono ?_;rintro e w5 ⟨O',δ,rfl,YW,qc,GV,hδ,lZ,Ni,Fb⟩;have zx:=J YW;have HON:=J Fb;have K:=J ((N.out.drewN nq).oE (λb' o _ e=>by cases e;exact MW) Fb);have P:=J<|show Rw w5 f.heap.size Q from(Fb.oE _ U).trans HRQ.out;have HE5:=J<|show jc w w5 from Fp.jc.auN HE.out Fb Zq;have hPt:=pw t;have Y3:0<val V:=by
     have:=D.out.lt;rcases fw (val V)with h|h
     .rw [h,cV]at this;omega
     .exact h
    have wg:IntKind.u32.wrap (G:Int)=G:=by rw[IntKind.wrap_u32];omega
    have htm:(t:Int)<n+1-(z:Int):= U ;have ZY:t<Q.length:=by rw[D.out.J5,zv.out];omega
    have QT:=bH ZY;have cq:=P.out.cell QT;have fq:=P.out.frozen t;generalize Q[t]=q0 at *
    have HQG:=J QT;clear QT ZY c4 c5 c6 c7 c8 HRO HRQ N HE HTk YW Fb;rcases er δ 1 with hδ0|hδ1
    .obtain rfl:δ=0:= U ;have YO:=Xg hPt Y3 (by rw[lZ,c9,bV]) HGq.out.1;have HDS:=J (D.out.step (x:=G) (by rw[zv.out];omega) (by rw[qc,hO]) GV U (by rw[lZ,c9,bV]) YO.2);clear YO lZ Ni GV qc D HGq;have HRQ6:=J (λx:Nat=>P.out.set t x);have HRO6:=J (λv:av=>zx.out.qX (w':=w5.setCell ⟨f.heap.size,t,am⟩ v)<|by simp only[aD,fV];rw[bn U]);have HSV6:=J (λv:av=>K.out.X7 (b:=f.heap.size) U t v);have HE6:=J (λv:av=>HE5.out.setCell (p:=⟨f.heap.size,t,am⟩) (by show w.heap.size<=f.heap.size;omega) v);go_wp2;go_roundw
     case rel=>exact⟨t,O',Q.set t G,U,by go_num,HDS.out,HRO6.out _,HRQ6.out _,HSV6.out _,HE6.out _⟩
     case measure=>simp[intOf]
    .obtain rfl:δ=1:= U ;have vk:=D.out.acv (x:=G) m.out GV (by rw[zv.out];exact lZ) (by rw[zv.out];exact Ni);have EX:=vk.2;have HB:=J (λ(κ:Nat) (zy:List Nat)=>D.out.Gk (x:=G) (κ:=κ) (O2:=zy) m.out (by rw[zv.out];omega) GV (by rw[zv.out];exact lZ) (by rw[zv.out];exact Ni) g1 HGq.out.2 Y3);have HP0:=J<|AP.start GV t V;have Zy:O'.length=n+1:=by rw[qc,hO]
     have HL':=J Zy;have hxm:IntKind.u64.wrap ((G:Int)-1)=((G-1:Nat):Int):=by rw[IntKind.wrap_u64];omega
     have wg1:IntKind.u32.wrap ((G-1:Nat):Int)=((G-1:Nat):Int):=by rw[IntKind.wrap_u32];omega
     clear vk lZ Ni GV qc Zy D HGq wg cq fq;go_wp2;go_loopw [15,125] (λcy i wr2=>∃ (k W:Nat) (zy:List Nat),k<=z/\i = .int .i64 k/\cy = .int .u32 W/\AP O' t V k zy W/\Rx wr2 g zy R/\vP g w5 wr2) (λ_ i _=>z-(intOf i).toNat)
     case atStart=>exact⟨0,0,O',cj _,rfl,rfl,HP0.out,zx.out,vP.refl _ _⟩
     case round=>
      clear HP0 zx;obtain⟨k,W,zy,wh,rfl,rfl,hP,A7,JI⟩:=hrel;have HP:=J hP;have B9:=hP.PJ;have pn:zy.length=n+1:=by rw[hP.len];exact HL'.out
      have HL2:=J pn;clear hP;by_cases iV:k<z
      .have Ci:k<V.length:=by rw[zv.out];exact iV
       obtain⟨_,_,e1,_,c1⟩:=(K.out.oE (λb' o _ e=>by cases e;exact MW) JI).mL Ci;cases e1;rw[ct]at c1;have v7:V[k]=V.getD k 0:=by simp[bB,Ci]
       rw[v7]at c1;have sx:t+k<zy.length:= U ;have c2:=A7.cell sx;have c3:=A7.frozen<|t+k;have rJ:V.getD k 0<4294967296:=m.out.getD k;have JQ:zy.getD (t+k) 0<4294967296:=HP.out.ok.getD _;have HST:=J (HP.out.step m.out Ci<|by rw[HL'.out,zv.out];omega);have HRS:=J (λx:Nat=>A7.set sx x);have F:=J λ(v:av)=>JI.KZ (t+k) v;have HA:=J λw=>ID (zy.getD (t+k) 0) (V.getD k 0) W w JQ rJ B9;clear A7 JI HP v7 Ci sx pn HL2;generalize zy.getD (t+k) 0=u at *
       generalize V.getD k 0=y at *
       have Bb:((t:Int)+k).toNat=t+k:= U ;have uj:0<=(t:Int)+k:= U ;have Zt:(t:Int)+k<n+1:= U ;go_wp2_with fail;refine(HA.out _).mono ?_;rintro e w6 ⟨rfl,rfl⟩;go_wp2;go_roundw
       case rel=>
        exact⟨k+1,(u+y+W)/4294967296,zy.set (t+k)<|(u+y+W)%4294967296,U,by go_num,rfl,HST.out,HRS.out _,F.out _⟩
       case measure=>simp[intOf];omega
      .obtain rfl:k=z:= U ;have ME:=(show AP O' t V V.length zy W by rw[zv.out];exact HP.out).J4 (by rw[HL'.out,zv.out];omega);rw[zv.out]at ME;obtain⟨q1,q2,⟨κ,q3,q4⟩,q5⟩:=ME;have sx:t+k<zy.length:= U ;have c2:=A7.cell sx;have c3:=A7.frozen<|t+k;have JQ:zy.getD (t+k) 0<4294967296:=HP.out.ok.getD _;have HDS:=J (HB.out κ _ (by rw[q1];exact HL'.out) q2 q3 (by rw[zv.out];exact q4)<|by rw[zv.out];exact q5);have HRS:=J (λx:Nat=>A7.set sx x);have F:=J λ(v:av)=>JI.KZ (t+k) v;have MG:∀ v:av,Rw (wr.setCell ⟨g,t+k,am⟩ v) f.heap.size Q:=λv=>((F.out v).oE _ U).trans P.out
       have hcq:∀ v:av,(wr.setCell ⟨g,t+k,am⟩ v).cell? ⟨f.heap.size,t,am⟩=al (.int .u32 (q0:Int)):=λv=>(MG v).cell HQG.out
       have hfq:∀ v:av,(wr.setCell ⟨g,t+k,am⟩ v).frozen? ⟨f.heap.size,t,am⟩=ac:=λv=>(MG v).frozen t
       have HRQ8:=J λ(v:av) (x:Nat)=>(MG v).set t x;have HRO8:=J (λ(x:Nat) (v:av)=>(HRS.out x).qX (w':=(wr.setCell ⟨g,t+k,am⟩<|.int .u32 (x:Int)).setCell ⟨f.heap.size,t,am⟩ v)<|by simp only[aD,fV];rw[bn U]);have HSV8:=J (λ(v v2:av)=>(K.out.oE (λb' o _ e=>by cases e;exact MW)<|F.out v).X7 (b:=f.heap.size) U t v2);have HE8:=J (λ(v v2:av)=>(Fp.jc.only HE5.out (F.out v) Zq).setCell (p:=⟨f.heap.size,t,am⟩) (by show w.heap.size<=f.heap.size;omega) v2);clear MG HRS F A7 JI HP q1 q2 q3 q4 q5 sx pn HL2;generalize zy.getD (t+k) 0=u at *
       have Bb:((t:Int)+k).toNat=t+k:= U ;have uj:0<=(t:Int)+k:= U ;have Zt:(t:Int)+k<n+1:= U ;have hi4:IntKind.u32.wrap ((u:Int)+W)=(((u+W)%4294967296:Nat):Int):=by rw[IntKind.wrap_u32];omega
       generalize (u+W)%4294967296=uu at *
       go_wp2;go_roundw
       case rel=>exact⟨t,zy.set (t+k) uu,Q.set t<|G-1,U,by go_num,HDS.out,HRO8.out _ _,HRQ8.out _ _,HSV8.out _ _,HE8.out _ _⟩
       case measure=>simp[intOf]
def atx:E.le (.v<|.slice am 0 0)<|F []:=λb r w v h=>by
 obtain rfl:=z.lr h;exact .sl ac 0 1 _ am 0 (λ_ _=>undef) (bA _) aG (λ_=>rfl) (λi j x=>absurd x<|bD i) (λi j x=>absurd x<|bD i) (λi j x=>absurd x<|bD i) λi j x=>absurd x<|bD i
def aty{x:Nat}:E.le (.sl ac 1 1 λh k=>[.v<|.int .u32 (x:Int)].getD (h*1+k)<|.v<|.bool ac)<|F [x]:=.sl λi j y z=>by
 obtain rfl:i=0:= U ;obtain rfl:j=0:= U ;exact⟨.refl _,rfl⟩
def Wz L(k:je L):iB 156 [F L]<|F L:=Kw k call156 (λA c w h _=>PY A c L w h) λA c B w e u h x ⟨y,z⟩=>by
 subst z;exact⟨_,y,Below.refl _ _,BK x (Below.refl _ _) ⟨bA _,h.len,h.ok,λn=>by have:=h.Au n;have:=h.cap;omega,h.cell⟩⟩
def WB L(k:je L)(l:L.length<=1000000):iB 157 [F L]<|F L:=Kw k call157 (λA c w h _=>PZ A c L w h U) λA c B w e x h y r=>rl B w e x y r
section
variable(L M:List Nat)(W:je L)(I:je M)(J:L.length<=100000)
def aoG(x:M.length<=100000)(h:kT (val<|iM L) (val<|iM M)<0):iB 305 [F L,F M]<|.iO [F [],F<|iM L]:=by
 have t:=qQ L;have b:=qQ M;unfold nB at t b;exact iL<|Y [.c<|xi L Z,.c<|xi M Z,.c<|SR (iM L) (iM M) (je.iM Z) (je.iM Z) U U,S 25<|bu h,.c<|WB (iM L) (je.iM Z) U]<|rR (.iO [F [],F<|iM L]) (.iO<|.cons atx<|.cons (.refl _) .nil:E.le (.iO [.v<|.slice am 0 0,F<|iM L])<|.iO [F [],F<|iM L])
def aoH(x:M.length<=100000)(h:¬kT (val<|iM L) (val<|iM M)<0)(l:(iM M).length=1)(y:0<(iM M).getD 0 0)(v:(iM M).getD 0 0<4294967296):iB 305 [F L,F M]<|.iO [F<|jr (val (iM L)/(iM M).getD 0 0) (iM L).length,F [val (iM L)%(iM M).getD 0 0]]:=by
 have t:=qQ L;have b:=qQ M;unfold nB at t b;exact iL<|Y [.c<|xi L Z,.c<|xi M Z,.c<|SR (iM L) (iM M) (je.iM Z) (je.iM Z) U U,S 25<|bw h,ah 30 (((iM M).length:Int)==1)<|by rw[l];rfl,iX 0<|(iM M).length,.c<|aoN (iM L) ((iM M).getD 0 0) (je.iM Z) U y v]<|rR (.iO [F<|jr (val (iM L)/(iM M).getD 0 0) (iM L).length,F [val (iM L)%(iM M).getD 0 0]]) (.iO<|.cons (.refl _)<|.cons aty .nil:E.le (.iO [F<|jr (val (iM L)/((iM M).getD 0 0)) (iM L).length,(.sl ac 1 1 λi j=>[.v<|.int .u32 ((val (iM L)%((iM M).getD 0 0):Nat):Int)].getD (i*1+j)<|.v<|.bool ac)])<|.iO [F<|jr (val (iM L)/(iM M).getD 0 0) (iM L).length,F [val (iM L)%(iM M).getD 0 0]])
def SS(t:M.length<=100000)(o:val M≠0):∃ T S:List Nat,iB 305 [F L,F M] (.iO [F T,F S])/\val T=val L/val M/\val S=val L%val M/\je T/\je S/\T.length<=L.length/\S.length<=L.length+1:=by
 have a:=qQ L;have X:=qQ M;unfold nB at a X;have z:=qm L;have u:=qm M;by_cases y:kT (val<|iM L) (val<|iM M)<0
 .refine ⟨[],iM L,aoG L M W I J t y,?_,?_,je.nil,W.iM,cj _,U⟩
  .rw [z,u]at y;have:val L<val M:=by unfold kT at y;split at y<;>(try split at y)<;>omega
   rw[cG this];rfl
  .rw [z,u]at y;have:val L<val M:=by unfold kT at y;split at y<;>(try split at y)<;>omega
   rw[bY this,z]
 .have Y:val M<=val L:=by rw[z,u]at y;unfold kT at y;split at y<;>(try split at y)<;>omega
  have Z:iM M≠[]:=by intro h;rw[h]at u;exact o u.symm
  have n:(iM M).length≠0:=by simpa using Z
  by_cases f:(iM M).length=1
  .have⟨x,s⟩:=List.length_eq_one_iff.1 f;have m:=I.iM;rw[s]at m;have v:x=val M:=by rw[<-u,s];simp[val]
   have g:(iM M).getD 0 0=x:=by rw[s];rfl
   have:=aoH L M W I J t y f (by rw[g];omega) (by rw[g];exact m.head);rw[g]at this;refine⟨_,_,this,?_,?_,uZ _ _,je.cons (fD (bO _ U) m.head) je.nil,by rw[ot];exact a,aK⟩
   .rw [yC,bY,z,v];exact cB (b6 _ _)<|nE W.iM
   .simp [val,z,v]
  .refine ⟨_,_,D5 W I call305 (λA c B d w h k K=>ajG A B c d L M w _ _ _ rfl rfl rfl h k K J t Y U) λB w e N b ⟨zx,G,zy,E,V,r,R,p⟩=>⟨_,V,p,lf.iO<|.cons (BK b p r)<|.cons (BK b p R)<|.nil _ _ _⟩,?_,?_,uZ _ _,D1 _ _,?_,?_⟩
   .rw [yC,bY];rw[cC U];have i:=nE W.iM;rw[z]at i;refine bJ i ?_;obtain⟨l,D⟩:∃ l,(iM M).length=l+1:=⟨(iM M).length-1,U⟩
    have Q:4294967296^l<=val M:=by
     apply b8;intro q;have r:(iy<|val M).length<=l:=uc U;rw[<-sX I]at r;omega
    have j:=cR (4294967296^((iM L).length+1-(iM M).length)) Q;rw[<-bC]at j;refine bF ?_ j;exact bR aG U 
   .rw [OY<|lW _,kE,ep _<|bG aG]
   .rw [ot];omega
   .rw [Oz,fB];have C:32-H ((iM M).getD ((iM M).length-1) 0)<33:= U ;have:=an1 (lW<|val L%val M)<|32-H ((iM M).getD ((iM M).length-1) 0);rw[kE]at this;have P:(iy<|val L%val M).length<=(iy<|val L).length:=nR<|ef _ _;rw[<-sX W]at P;omega
end
def CE m n(u:(iy m).length<=256)(v:(iy n).length<=256)(h:n≠0):iB 270 [F<|iy m,F<|iy n]<|.iO [F<|iy<|m/n,F<|iy<|m%n,D 0]:=by
 have⟨T,t,J,x,k,o,y,_,_⟩:=SS (iy m) (iy n) (lW m) (lW n) U U (by rw[kE];exact h);rw[kE,kE]at x k;have z:iM (iy n)=iy n:=xq n;have l:=qg h;have p:(((iM<|iy n).length:Int)==0)=ac:=by rw[z];exact oo l
 exact iL<|Y [.c<|abO (iy m) (iy n) Z Z,.c<|xi (iy n)<|lW _,S 18 p,.c J,.c<|xi T Z,.c<|Wz (iM T)<|je.iM Z,.c<|xi t Z,.c<|Wz (iM t)<|je.iM Z]<|V (.iO [F<|iM T,F<|iM t,D 0]) (.iO [F<|iy<|m/n,F<|iy<|m%n,D 0])<|by rw[sX o,sX y,x,k]
def adh a b(p:Nat)up(y:a.iE)(z:b.iE)(k:b.m≠0)(i:8<=p)(C:p<=512):iB 211 [iJ a,iJ b,D p,I up]<|.iO [iJ<|lK a b p up,D<|o9 a b p up]:=by
 by_cases x:a.m=0
 .have e:lK a b p up=kq/\o9 a b p up=0:=by unfold lK o9;rw[bt x,bt x];exact⟨rfl,rfl⟩
  exact iL<|Y [.o 18<|.e<|Ac a b,.c<|AD p a b Z Z,tM 21 0 0,S 28<|oo<|qg k,S 34<|tS<|sF.2 x,.o 35<|.e xv]<|V (.iO [iJ kq,D 0]) (.iO [iJ<|lK a b p up,D<|o9 a b p up])<|by rw[e.1,e.2]
 .have s:=y.iy;have n:=z.iy;have m:=y.exp;have l:=z.exp;have g:=y.range.resolve_left x;have f:=z.range.resolve_left k;have c:=oP x;have j:=oP k;have K:lg a b p 3=p+3+H b.m-H a.m:=rfl;have o:=sO x<|lg a b p 3;have w:(iy<|a.m*2^lg a b p 3).length<=256:=ph;have u:=Qa x k p 3 aG;have v:a.m*2^lg a b p 3/b.m≠0:=by intro q;rw[q,tZ]at u;omega
  have X:(iy<|a.m*2^lg a b p 3/b.m).length<=256:=ph (by have:=uX<|b6 (a.m*2^lg a b p 3) b.m;omega);have Q:(iy<|a.m*2^lg a b p 3%b.m).length<=256:=ph (by have:=uX<|dK<|bO (a.m*2^lg a b p 3)<|eB k;omega);have r:decide (0<(H<|a.m*2^lg a b p 3%b.m:Int))=decide (a.m*2^lg a b p 3%b.m≠0):=by
   by_cases h:a.m*2^lg a b p 3%b.m=0
   .rw [h,tZ];rfl
   .have:=oP h;rw[bu h,bu U]
  have⟨d,t⟩:=ajE x k p up;have T:a.m*2^lg a b p 3/b.m≠0\/a.m*2^lg a b p 3/b.m=0/\a.e-(lg a b p 3:Int)-b.e=0/\decide (0<(H<|a.m*2^lg a b p 3%b.m:Int))=ac:=.inl v;have P:decide (0<(H<|a.m*2^lg a b p 3%b.m:Int))=aa->p<H (a.m*2^lg a b p 3/b.m):=λ_=>u
  exact iL (Y [.o 18<|.e<|Ac a b,.c<|AD p a b Z Z,tM 21 0 0,S 28<|oo<|qg k,S 34<|oo<|qg x,iN<|(p:Int)+3,.c<|Mh b Z,iN<|((p:Int)+3)+(H<|Dy.m b:Int),.c<|Mh a Z,
   iN ((((p:Int)+3)+(H<|Dy.m b:Int))-(H<|Dy.m a:Int)),.o 44<|oI (if((((p:Int)+3)+(H<|Dy.m b:Int))-(H<|Dy.m a:Int))>0 then((((p:Int)+3)+(H<|Dy.m b:Int))-(H<|Dy.m a:Int))else 0) (lg a b p 3:Int) aR,.c<|zG a.m<|lg a b p 3,.c<|CE (a.m*2^(lg a b p 3)) b.m U U Z,iN<|a.e-(lg a b p 3:Int),
   iN ((a.e-(lg a b p 3:Int))-b.e),.c<|vE<|(a.m*2^(lg a b p 3))%b.m,.c<|KI (! (a.neg==b.neg)) ((a.m*2^(lg a b p 3))/b.m) ((a.e-(lg a b p 3:Int))-b.e) (decide (0<(H<|(a.m*2^(lg a b p 3))%b.m:Int))) up p U Z U U U U Z]<|V (.iO [iJ<|kB (!(a.neg==b.neg)) ((a.m*2^(lg a b p 3))/b.m) ((a.e-(lg a b p 3:Int))-b.e) (decide (0<(H<|(a.m*2^(lg a b p 3))%b.m:Int))) p up,D<|ko (!(a.neg==b.neg)) ((a.m*2^(lg a b p 3))/b.m) ((a.e-(lg a b p 3:Int))-b.e) (decide (0<(H<|(a.m*2^(lg a b p 3))%b.m:Int))) p up]) (.iO [iJ<|lK a b p up,D<|o9 a b p up])<|by rw[<-d,<-t,<-r];rfl)
section
variable(a b:Dy)(p:Nat)(h:a.iE)(x:b.iE)(k:b.m≠0)(i:8<=p)(C:p<=512)
def adf:iB 148 [iJ a,iJ b,D p]<|.iO [iJ<|lK a b p ac,D<|o9 a b p ac]:=
 iL (af [.c<|adh a b p ac Z Z Z U U])
def adg:iB 149 [iJ a,iJ b,D p]<|.iO [iJ<|lK a b p aa,D<|o9 a b p aa]:=
 iL (af [.c<|adh a b p aa Z Z Z U U])
end
def aas(l:List Iv)(i:Nat):PS:=⟨19,aa,[(7,.e<|D i),(6,.e<|D l.length),(5,.e<|K l)],[]⟩
def aar(l:List Iv)(N:Nat)(i:Nat):PS:=⟨19,aa,[(7,.e<|D i),(6,.e<|D l.length),(5,.e<|K l)],[]⟩
def lM a:E.le (.sl aa 1 7 λi j=>(jv a).getD (i*7+j)<|.v<|.bool ac)<|K [a]:=.sl λi j h x=>by
 obtain rfl:i=0:= U ;rcases j with _|_|_|_|_|_|_|j
 all_goals first|exact⟨.refl _,rfl⟩|omega
def Cx a b:E.le (.sl aa 2 7 λi j=>(jv a++jv b).getD (i*7+j)<|.v<|.bool ac)<|K [a,b]:=.sl λi j h x=>by
 obtain rfl|rfl:i=0\/i=1:= U 
 all_goals
  rcases j with _|_|_|_|_|_|_|j
  all_goals first|exact⟨.refl _,rfl⟩|omega
def rk{x:Iv}(h:x.iE)(a:x.all=ac):x.lo.iE/\x.hi.iE/\jQ x.lo x.hi<=0:=by
 rcases h with⟨k,_⟩|⟨_,h⟩
 .rw [a]at k;cases k
 .exact h
def Sk{x:Iv}(h:x.iE)(a:x.all=aa):x.lo=kq/\x.hi=kq:=by
 rcases h with⟨_,h⟩|⟨k,_⟩
 .exact h
 .rw [a]at k;cases k
def pv: iB 45 []<|O L:=
 iL (af [.o 1<|.e Le])
def Fv l h e f:iB 53 [iJ l,D e,iJ h,D f]<|O<|mc l e h f:=by
 by_cases x:e=0
 .by_cases k:f=0
  .exact iL<|Y [ai 10 (e != 0)<|by rw[x];rfl,ai 13 (f != 0)<|by rw[k];rfl]<|V (O<|Iv.mk l h ac) (O<|mc l e h f)<|by rw[show mc l e h f=⟨l,h,ac⟩by unfold mc;rw[bn<|by simp[x,k]]];try rfl
  .exact iL<|Y [ai 10 (e != 0)<|by rw[x];rfl,ah 13 (f != 0)<|by simpa using k,.c pv]<|V (O L) (O<|mc l e h f)<|by rw[show mc l e h f=L by unfold mc;rw[bt<|.inr k]]
 .exact iL<|Y [ah 10 (e != 0)<|by simpa using x,.c pv]<|V (O L) (O<|mc l e h f)<|by rw[show mc l e h f=L by unfold mc;rw[bt<|.inl x]]
def aaw: iB 134 [iJ kq]<|I aa:=
 iL (af [ai 4 kq.neg rfl,ah 10 (((iy kq.m).length:Int)==0)<|tS<|sF.2 rfl,ah 15 (kq.e==0) rfl])
def rL x(h:x.iE):iB 74 [O x]<|I aa:=by
 by_cases l:x.all=aa
 .have⟨k,y⟩:=Sk h l;exact iL<|af [S 5 l,.c (by rw[k];exact aaw:iB 134 [iJ x.lo]<|I aa),.c (by rw[y];exact aaw:iB 134 [iJ x.hi]<|I aa)]
 .replace l:x.all=ac:=by simpa using l
  have⟨k,y,z⟩:=rk h l;exact iL<|af [S 5 l,.c<|pZ x.lo Z,.c<|pZ x.hi Z,.c<|pE x.lo x.hi Z Z,S 30<|bu z]
section
variable(l:List Iv)(h:l.length<=1000)(y:∀ i,i<l.length->(l.getD i L).iE)
def aat(h:∀ i,i<l.length->(l.getD i L).all=ac):iB 43 [K l]<|I aa:=
 iL (af [.s (Sp.jL (aas l) 0 l.length U (λi x o=>by
    have k:=y i U;have Q:=h i U;exact iU (af [tT 8 ((i:Int)<l.length) U,iX (i:Int)<|l.length,S 12 Q,.c<|rL (l.getD i L) Z,iN<|(i:Int)+1]) aI)
  (λx=>by
    exact iU (af [tF 8 ((l.length:Int)<l.length) U]) aI) aM:jK 2 Tryz.f43 (aas l 0) (.exit 0) ⟨19,aa,[],[]⟩) .nil])
def Sh N(k:N<l.length)(h:∀ i,i<N->(l.getD i L).all=ac)(v:(l.getD N L).all=aa):iB 43 [K l]<|I ac:=
 iL (af [.s (Sp.jL (aar l N) 0 N U (λi x o=>by
    have z:=y i U;have Q:=h i U;exact iU (af [tT 8 ((i:Int)<l.length) U,iX (i:Int)<|l.length,S 12 Q,.c<|rL (l.getD i L) Z,iN<|(i:Int)+1]) aI)
  (λx=>by
    exact iU (af [tT 8 ((N:Int)<l.length) U,iX (N:Int)<|l.length,S 12 v]) aI) aM:jK 2 Tryz.f43 (aar l N 0) .ret ⟨19,aa,[(2,.e<|I ac)],[]⟩) .nil])
end
def se x(k:x.iE):iB 43 [K [x]]<|I<|!x.all:=by
 have v:∀ i,i<[x].length->([x].getD i L).iE:=λi h=>(match i,h with
  | 0,_=>k
  |n+1,h=>absurd h aK)
 cases lP:x.all with
 |true=>exact Sh [x] aK v 0 aK (λi h=>absurd h<|bD i) lP
 |false=>exact aat [x] aK v (λi h=>(match i,h with
  | 0,_=>lP
  |n+1,h=>absurd h aK))
def Cw x y(k:x.iE)(z:y.iE):iB 43 [K [x,y]]<|I<|!(x.all||y.all):=by
 have v:∀ i,i<[x,y].length->([x,y].getD i L).iE:=λi h=>(match i,h with
  | 0,_=>k
  | 1,_=>z
  |n+2,h=>absurd h aK)
 cases lP:x.all with
 |true=>exact Sh [x,y] aK v 0 aK (λi h=>absurd h<|bD i) lP
 |false=>cases DN:y.all with
  |true=>exact Sh [x,y] aK v 1 aK (λi h=>(match i,h with
   | 0,_=>lP
   |n+1,h=>absurd h U)) DN
  |false=>exact aat [x,y] aK v (λi h=>(match i,h with
   | 0,_=>lP
   | 1,_=>DN
   |n+2,h=>absurd h aK))
def yb x y(p:Nat)(z:x.iE)(u:y.iE)(i:8<=p:=by omega)(C:p<=512:=by omega):iB 14 [O x,O y,D p]<|O<|jN x y p:=by
 by_cases k:(x.all||y.all)=aa
 .exact iL<|Y [.o 13<|.e<|Cx x y,.c<|Cw x y Z Z,ai 14 (!(x.all||y.all))<|by rw[k];rfl,.c pv]<|V (O L) (O<|jN x y p)<|by rw[show jN x y p=L by unfold jN;rw[bt k]]
 .replace k:(x.all||y.all)=ac:=by simpa using k
  have l:x.all=ac:=by cases h:x.all;rfl;rw[h]at k;simp at k
  have m:y.all=ac:=by cases h:y.all;rfl;rw[h]at k;simp at k
  have⟨v,t,s⟩:=rk z l;have⟨r,q,n⟩:=rk u m;exact iL<|Y [.o 13<|.e<|Cx x y,.c<|Cw x y Z Z,ah 14 (!(x.all||y.all))<|by rw[k];rfl,.c<|zh (p:Int),ah 18 (mi (p:Int))<|sr.2 ⟨U,U⟩,.c<|ara x.lo y.lo p Z Z U U,.c<|adb x.hi y.hi p Z Z U U,.c<|Fv (jZ (jl x.lo y.lo) p ac) (jZ (jl x.hi y.hi) p aa) (kg (jl x.lo y.lo) p ac)<|kg (jl x.hi y.hi) p aa]<|V (O<|mc (jZ (jl x.lo y.lo) p ac) (kg (jl x.lo y.lo) p ac) (jZ (jl x.hi y.hi) p aa)<|kg (jl x.hi y.hi) p aa) (O<|jN x y p)<|by rw[show jN x y p=_ by unfold jN;rw[bn<|by rw[k];decide]]
def No x(h:x.iE):iB 257 [O x]<|O<|oF x:=by
 by_cases l:x.all=aa
 .exact iL<|Y [.o 4<|.e<|lM x,.c<|se x Z,ai 5 (!x.all)<|by rw[l];rfl,.c pv]<|V (O L) (O<|oF x)<|by rw[show oF x=L by unfold oF;rw[bt l]]
 .replace l:x.all=ac:=by simpa using l
  have⟨v,k,y⟩:=rk h l;exact iL<|Y [.o 4<|.e<|lM x,.c<|se x Z,ah 5 (!x.all)<|by rw[l];rfl,.c<|AX x.hi Z,.c<|AX x.lo Z]<|V (O<|Iv.mk (ji x.hi) (ji x.lo) ac) (O<|oF x)<|by rw[show oF x=⟨ji x.hi,ji x.lo,ac⟩by unfold oF;rw[bn<|by rw[l];decide]];try rfl
def Nq x y(p:Nat)(k:x.iE)(h:y.iE)(i:8<=p:=by omega)(C:p<=512:=by omega):iB 251 [O x,O y,D p]<|O<|qy x y p:=by
 have n:=DY h;exact iL<|af [.c<|No y Z,.c<|yb x (oF y) p Z Z]
def xg d(h:d.iE):iB 49 [iJ d]<|O<|lp d:=
 iL (af [.c<|pZ d Z])
def I1 d(h:d.iE):iB 159 [iJ d]<|iJ<|mF d:=by
 have l:=h.iy;by_cases x:d.m=0
 .have e:mF d=kq:=by
   rcases h.canon with q|q
   .unfold mF kq;rw[q.1,q.2.2]
   .omega
  exact iL<|Y [.c<|pZ d Z,S 10<|tS<|sF.2 x,.o 12<|.e xv]<|V (iJ kq) (iJ<|mF d)<|by rw[e]
 .exact iL<|af [.c<|pZ d Z,S 10<|oo<|qg x,.c<|WB (iy d.m) (lW _) U]
section
variable(a b:Dy)(h:a.iE)(x:b.iE)
def G5:iB 158 [iJ a,iJ b]<|iJ<|jI a b:=by
 have c:=AV a b;by_cases h:(jQ a b<=0)
 .exact iL<|Y [.c<|pE a b Z Z,S 8<|bu h]<|V (iJ a) (iJ<|jI a b)<|by unfold jI;rw[bn U]
 .exact iL<|Y [.c<|pE a b Z Z,S 8<|bw h]<|V (iJ b) (iJ<|jI a b)<|by unfold jI;rw[bt U]
def G6:iB 160 [iJ a,iJ b]<|iJ<|jz a b:=by
 have c:=AV a b;by_cases h:(0<=jQ a b)
 .exact iL<|Y [.c<|pE a b Z Z,S 8<|bu h]<|V (iJ a) (iJ<|jz a b)<|by unfold jz;rw[bn U]
 .exact iL<|Y [.c<|pE a b Z Z,S 8<|bw h]<|V (iJ b) (iJ<|jz a b)<|by unfold jz;rw[bt U]
end
section
variable(x:Iv)(u:x.iE)
def Np:iB 147 [O x]<|D<|nk x:=by
 by_cases l:x.all=aa
 .exact iL<|Y [.o 5<|.e<|lM x,.c<|se x Z,ai 6 (!x.all)<|by rw[l];rfl]<|V (D 0) (D<|nk x)<|by rw[show nk x=0 by unfold nk;rw[bt l]]
 .replace l:x.all=ac:=by simpa using l
  have⟨v,y,z⟩:=rk u l;by_cases h:0<x.lo.jh
  .exact iL<|Y [.o 5<|.e<|lM x,.c<|se x Z,ah 6 (!x.all)<|by rw[l];rfl,.c<|oC x.lo Z,S 12<|bu h]<|V (D 1) (D<|nk x)<|by rw[show nk x=1 by unfold nk;rw[bn<|by rw[l];decide];simp[h]]
  .by_cases k:x.hi.jh<0
   .exact iL<|Y [.o 5<|.e<|lM x,.c<|se x Z,ah 6 (!x.all)<|by rw[l];rfl,.c<|oC x.lo Z,S 12<|bw h,.c<|oC x.hi Z,S 17<|bu k]<|V (D (-1)) (D<|nk x)<|by rw[show nk x = -1 by unfold nk;rw[bn<|by rw[l];decide];simp[h,k]]
   .exact iL<|Y [.o 5<|.e<|lM x,.c<|se x Z,ah 6 (!x.all)<|by rw[l];rfl,.c<|oC x.lo Z,S 12<|bw h,.c<|oC x.hi Z,S 17<|bw k]<|V (D 0) (D<|nk x)<|by rw[show nk x=0 by unfold nk;rw[bn<|by rw[l];decide];simp[h,k]]
def Sj(l:x.all=ac):iB 92 [O x]<|.iO [iJ<|nX x,I aa]:=by
 have⟨v,h,k⟩:=rk u l;have w:=uD v;have y:=uD h;exact iL<|af [.o 5<|.e<|lM x,.c<|se x Z,ah 6 (!x.all)<|by rw[l];rfl,.c<|I1 x.lo Z,.c<|I1 x.hi Z,.c<|G6 (mF x.lo) (mF x.hi) Z Z]
def ann(l:x.all=ac):iB 91 [O x]<|.iO [iJ<|pk x,I aa]:=by
 have⟨v,k,y⟩:=rk u l;have w:=uD v;have z:=uD k;by_cases h:nk x=0
 .exact iL<|Y [.o 5<|.e<|lM x,.c<|se x Z,ah 6 (!x.all)<|by rw[l];rfl,.c<|Np x Z,ah 11 ((nk x)==0)<|by rw[h];rfl,.o 12<|.e xv]<|V (.iO [iJ kq,I aa]) (.iO [iJ<|pk x,I aa])<|by rw[show pk x=kq by unfold pk;rw[bt h]]
 .exact iL<|Y [.o 5<|.e<|lM x,.c<|se x Z,ah 6 (!x.all)<|by rw[l];rfl,.c<|Np x Z,ai 11 ((nk x)==0)<|by simpa using h,.c<|I1 x.lo Z,.c<|I1 x.hi Z,.c<|G5 (mF x.lo) (mF x.hi) Z Z]<|V (.iO [iJ<|jI (mF x.lo)<|mF x.hi,I aa]) (.iO [iJ<|pk x,I aa])<|by rw[show pk x=jI (mF x.lo) (mF x.hi)by unfold pk;rw[bn h]]
def Sg:iB 51 [O x]<|O<|jG x:=by
 by_cases l:x.all=aa
 .exact iL<|Y [.o 8<|.e<|lM x,.c<|se x Z,ai 9 (!x.all)<|by rw[l];rfl,.c pv]<|V (O L) (O<|jG x)<|by rw[show jG x=L by unfold jG;rw[bt l]]
 .replace l:x.all=ac:=by simpa using l
  have⟨v,h,k⟩:=rk u l;exact iL<|Y [.o 8<|.e<|lM x,.c<|se x Z,ah 9 (!x.all)<|by rw[l];rfl,.c<|ann x Z l,.c<|Sj x Z l]<|V (O<|Iv.mk (pk x) (nX x) ac) (O<|jG x)<|by rw[show jG x=⟨pk x,nX x,ac⟩by unfold jG;rw[bn<|by rw[l];decide]];try rfl
end
section
variable(x y:Iv)(p:Nat)(T R:ax)(X:Dy->Dy->Bool->Dy)
def anj(E:Dy->Dy->Bool->Int):PS:=⟨96,aa,[(41,.e<|D 0),(40,.e<|.agg<|jv (Iv.mk x.lo y.lo x.lo.neg)++[F<|iy x.lo.m,D x.lo.e]++jv (Iv.mk y.hi x.hi y.lo.neg)++[F<|iy y.lo.m,D y.lo.e]++lh x.hi++lh y.hi),(12,.box 12 0),(10,.box 10 0),(2,.e<|D p),(3,.e<|.fn T []),(4,.e<|.fn R [])],[(12,.cells 33<|jv<|Iv.mk (X x.lo y.lo ac) (X x.lo y.lo aa) ac),(10,.cells 33 au)]⟩
def ank(E:Dy->Dy->Bool->Int):PS:=⟨96,aa,[(41,.e<|D<|0+1),(40,.e<|.agg<|jv (Iv.mk x.lo y.lo x.lo.neg)++[F<|iy x.lo.m,D x.lo.e]++jv (Iv.mk y.hi x.hi y.lo.neg)++[F<|iy y.lo.m,D y.lo.e]++lh x.hi++lh y.hi),(12,.box 12 0),(10,.box 10 0),(2,.e<|D p),(3,.e<|.fn T []),(4,.e<|.fn R [])],[(12,.cells 33<|jv<|Iv.mk (jI (X x.lo y.lo ac)<|X x.lo y.hi ac) (jz (X x.lo y.lo aa)<|X x.lo y.hi aa) ac),(10,.cells 33 au)]⟩
def anl(E:Dy->Dy->Bool->Int):PS:=⟨96,aa,[(41,.e<|D<|(0+1)+1),(40,.e<|.agg<|jv (Iv.mk x.lo y.lo x.lo.neg)++[F<|iy x.lo.m,D x.lo.e]++jv (Iv.mk y.hi x.hi y.lo.neg)++[F<|iy y.lo.m,D y.lo.e]++lh x.hi++lh y.hi),(12,.box 12 0),(10,.box 10 0),(2,.e<|D p),(3,.e<|.fn T []),(4,.e<|.fn R [])],[(12,.cells 33<|jv<|Iv.mk (jI (jI (X x.lo y.lo ac)<|X x.lo y.hi ac)<|X x.hi y.lo ac) (jz (jz (X x.lo y.lo aa)<|X x.lo y.hi aa)<|X x.hi y.lo aa) ac),(10,.cells 33 au)]⟩
def anm(E:Dy->Dy->Bool->Int):PS:=⟨96,aa,[(41,.e<|D<|((0+1)+1)+1),(40,.e<|.agg<|jv (Iv.mk x.lo y.lo x.lo.neg)++[F<|iy x.lo.m,D x.lo.e]++jv (Iv.mk y.hi x.hi y.lo.neg)++[F<|iy y.lo.m,D y.lo.e]++lh x.hi++lh y.hi),(12,.box 12 0),(10,.box 10 0),(2,.e<|D p),(3,.e<|.fn T []),(4,.e<|.fn R [])],[(12,.cells 33<|jv<|Iv.mk (jI (jI (jI (X x.lo y.lo ac)<|X x.lo y.hi ac)<|X x.hi y.lo ac)<|X x.hi y.hi ac) (jz (jz (jz (X x.lo y.lo aa)<|X x.lo y.hi aa)<|X x.hi y.lo aa)<|X x.hi y.hi aa) ac),(10,.cells 33 au)]⟩
def aaq E(d:∀ a b,(a=x.lo\/a=x.hi)->(b=y.lo\/b=y.hi)->iB T [iJ a,iJ b,D (p:Int)] (.iO [iJ<|X a b ac,D<|E a b ac]))(u:∀ a b,(a=x.lo\/a=x.hi)->(b=y.lo\/b=y.hi)->iB R [iJ a,iJ b,D (p:Int)] (.iO [iJ<|X a b aa,D<|E a b aa]))(h:∀ a b up,(X a b up).iE):iB 46 [O x,O y,D p,.fn T [],.fn R []]<|O<|nQ X E x y:=by
 exact iL (Y [.u 5,tT 42 ((0:Int)<4) U]<|.w ((E x.lo y.lo ac)=0)
  (λg=>.w ((E x.lo y.lo aa)=0)
   (λi=>Y [.j 3 (anj x y p T R X E)
   (af [iX 0 4,iX 0 2,iX 1 2,.c (d _ _ (.inl rfl)<|.inl rfl:iB T ((iJ x.lo)::(iJ y.lo)::(D p)::[]) _),iX 0 2,iX 1 2,.c (u _ _ (.inl rfl)<|.inl rfl:iB R ((iJ x.lo)::(iJ y.lo)::(D p)::[]) _),S 66<|bj g,S 69<|bj i,tE 73 0 0,tE 84 0 0]),
    iN (0+1),tT 42 (((0+1):Int)<4) U]<|.w ((E x.lo y.hi ac)=0)
    (λf=>.w ((E x.lo y.hi aa)=0)
     (λj=>Y [.j 3 (ank x y p T R X E)
   (Y [iX (0+1) 4,iX 0 2,iX 1 2,.c (d _ _ (.inl rfl)<|.inr rfl:iB T ((iJ x.lo)::(iJ y.hi)::(D p)::[]) _),iX 0 2,iX 1 2,.c (u _ _ (.inl rfl)<|.inr rfl:iB R ((iJ x.lo)::(iJ y.hi)::(D p)::[]) _),S 66<|bj f,S 69<|bj j,tN 73 ((0+1):Int) 0,.c<|pE (X x.lo y.hi ac) (X x.lo y.lo ac) (h _ _ _)<|h _ _ _]<|.w ((jQ (X x.lo y.hi ac)<|X x.lo y.lo ac)<0)
    (λk=>Y [S 79<|bu k,tN 84 ((0+1):Int) 0,.c<|pE (X x.lo y.hi aa) (X x.lo y.lo aa) (h _ _ _)<|h _ _ _]<|.w (0<(jQ (X x.lo y.hi aa)<|X x.lo y.lo aa))
     (λm=>Y [S 90<|bu m]<|.e<|af [.b 12<|cE 33 (jv<|Iv.mk (X x.lo y.hi ac) (X x.lo y.hi aa) ac) (jv<|Iv.mk (jI (X x.lo y.lo ac)<|X x.lo y.hi ac) (jz (X x.lo y.lo aa)<|X x.lo y.hi aa) ac)<|by rw[show jI _ _=_ from bt k,show jz _ _=_ from bt m]])
     (λm=>Y [S 90<|bw m]<|.e<|af [.b 12<|cE 33 (jv<|Iv.mk (X x.lo y.hi ac) (X x.lo y.lo aa) ac) (jv<|Iv.mk (jI (X x.lo y.lo ac)<|X x.lo y.hi ac) (jz (X x.lo y.lo aa)<|X x.lo y.hi aa) ac)<|by rw[show jI _ _=_ from bt k,show jz _ _=_ from bn m]]))
    (λk=>Y [S 79<|bw k,tN 84 ((0+1):Int) 0,.c<|pE (X x.lo y.hi aa) (X x.lo y.lo aa) (h _ _ _)<|h _ _ _]<|.w (0<(jQ (X x.lo y.hi aa)<|X x.lo y.lo aa))
     (λm=>Y [S 90<|bu m]<|.e<|af [.b 12<|cE 33 (jv<|Iv.mk (X x.lo y.lo ac) (X x.lo y.hi aa) ac) (jv<|Iv.mk (jI (X x.lo y.lo ac)<|X x.lo y.hi ac) (jz (X x.lo y.lo aa)<|X x.lo y.hi aa) ac)<|by rw[show jI _ _=_ from bn k,show jz _ _=_ from bt m]])
     (λm=>Y [S 90<|bw m]<|.e<|af [.b 12<|cE 33 (jv<|Iv.mk (X x.lo y.lo ac) (X x.lo y.lo aa) ac) (jv<|Iv.mk (jI (X x.lo y.lo ac)<|X x.lo y.hi ac) (jz (X x.lo y.lo aa)<|X x.lo y.hi aa) ac)<|by rw[show jI _ _=_ from bn k,show jz _ _=_ from bn m]]))),
      iN ((0+1)+1),tT 42 ((((0+1)+1):Int)<4) U]<|.w ((E x.hi y.lo ac)=0)
      (λe=>.w ((E x.hi y.lo aa)=0)
       (λo=>Y [.j 3 (anl x y p T R X E)
   (Y [iX ((0+1)+1) 4,iX 0 2,iX 1 2,.c (d _ _ (.inr rfl)<|.inl rfl:iB T ((iJ x.hi)::(iJ y.lo)::(D p)::[]) _),iX 0 2,iX 1 2,.c (u _ _ (.inr rfl)<|.inl rfl:iB R ((iJ x.hi)::(iJ y.lo)::(D p)::[]) _),S 66<|bj e,S 69<|bj o,tN 73 (((0+1)+1):Int) 0,.c<|pE (X x.hi y.lo ac) (jI (X x.lo y.lo ac)<|X x.lo y.hi ac) (h _ _ _)<|rm (h _ _ _)<|h _ _ _]<|.w ((jQ (X x.hi y.lo ac)<|jI (X x.lo y.lo ac)<|X x.lo y.hi ac)<0)
    (λk=>Y [S 79<|bu k,tN 84 (((0+1)+1):Int) 0,.c<|pE (X x.hi y.lo aa) (jz (X x.lo y.lo aa)<|X x.lo y.hi aa) (h _ _ _)<|qx (h _ _ _)<|h _ _ _]<|.w (0<(jQ (X x.hi y.lo aa)<|jz (X x.lo y.lo aa)<|X x.lo y.hi aa))
     (λm=>Y [S 90<|bu m]<|.e<|af [.b 12<|cE 33 (jv<|Iv.mk (X x.hi y.lo ac) (X x.hi y.lo aa) ac) (jv<|Iv.mk (jI (jI (X x.lo y.lo ac)<|X x.lo y.hi ac)<|X x.hi y.lo ac) (jz (jz (X x.lo y.lo aa)<|X x.lo y.hi aa)<|X x.hi y.lo aa) ac)<|by rw[show jI _ _=_ from bt k,show jz _ _=_ from bt m]])
     (λm=>Y [S 90<|bw m]<|.e<|af [.b 12<|cE 33 (jv<|Iv.mk (X x.hi y.lo ac) (jz (X x.lo y.lo aa)<|X x.lo y.hi aa) ac) (jv<|Iv.mk (jI (jI (X x.lo y.lo ac)<|X x.lo y.hi ac)<|X x.hi y.lo ac) (jz (jz (X x.lo y.lo aa)<|X x.lo y.hi aa)<|X x.hi y.lo aa) ac)<|by rw[show jI _ _=_ from bt k,show jz _ _=_ from bn m]]))
    (λk=>Y [S 79<|bw k,tN 84 (((0+1)+1):Int) 0,.c<|pE (X x.hi y.lo aa) (jz (X x.lo y.lo aa)<|X x.lo y.hi aa) (h _ _ _)<|qx (h _ _ _)<|h _ _ _]<|.w (0<(jQ (X x.hi y.lo aa)<|jz (X x.lo y.lo aa)<|X x.lo y.hi aa))
     (λm=>Y [S 90<|bu m]<|.e<|af [.b 12<|cE 33 (jv<|Iv.mk (jI (X x.lo y.lo ac)<|X x.lo y.hi ac) (X x.hi y.lo aa) ac) (jv<|Iv.mk (jI (jI (X x.lo y.lo ac)<|X x.lo y.hi ac)<|X x.hi y.lo ac) (jz (jz (X x.lo y.lo aa)<|X x.lo y.hi aa)<|X x.hi y.lo aa) ac)<|by rw[show jI _ _=_ from bn k,show jz _ _=_ from bt m]])
     (λm=>Y [S 90<|bw m]<|.e<|af [.b 12<|cE 33 (jv<|Iv.mk (jI (X x.lo y.lo ac)<|X x.lo y.hi ac) (jz (X x.lo y.lo aa)<|X x.lo y.hi aa) ac) (jv<|Iv.mk (jI (jI (X x.lo y.lo ac)<|X x.lo y.hi ac)<|X x.hi y.lo ac) (jz (jz (X x.lo y.lo aa)<|X x.lo y.hi aa)<|X x.hi y.lo aa) ac)<|by rw[show jI _ _=_ from bn k,show jz _ _=_ from bn m]]))),
        iN (((0+1)+1)+1),tT 42 (((((0+1)+1)+1):Int)<4) U]<|.w ((E x.hi y.hi ac)=0)
        (λc=>.w ((E x.hi y.hi aa)=0)
         (λw=>Y [.j 3 (anm x y p T R X E)
   (Y [iX (((0+1)+1)+1) 4,iX 0 2,iX 1 2,.c (d _ _ (.inr rfl)<|.inr rfl:iB T ((iJ x.hi)::(iJ y.hi)::(D p)::[]) _),iX 0 2,iX 1 2,.c (u _ _ (.inr rfl)<|.inr rfl:iB R ((iJ x.hi)::(iJ y.hi)::(D p)::[]) _),S 66<|bj c,S 69<|bj w,tN 73 ((((0+1)+1)+1):Int) 0,.c<|pE (X x.hi y.hi ac) (jI (jI (X x.lo y.lo ac)<|X x.lo y.hi ac)<|X x.hi y.lo ac) (h _ _ _)<|rm (rm (h _ _ _)<|h _ _ _)<|h _ _ _]<|.w ((jQ (X x.hi y.hi ac)<|jI (jI (X x.lo y.lo ac)<|X x.lo y.hi ac)<|X x.hi y.lo ac)<0)
    (λk=>Y [S 79<|bu k,tN 84 ((((0+1)+1)+1):Int) 0,.c<|pE (X x.hi y.hi aa) (jz (jz (X x.lo y.lo aa)<|X x.lo y.hi aa)<|X x.hi y.lo aa) (h _ _ _)<|qx (qx (h _ _ _)<|h _ _ _)<|h _ _ _]<|.w (0<(jQ (X x.hi y.hi aa)<|jz (jz (X x.lo y.lo aa)<|X x.lo y.hi aa)<|X x.hi y.lo aa))
     (λm=>Y [S 90<|bu m]<|.e<|af [.b 12<|cE 33 (jv<|Iv.mk (X x.hi y.hi ac) (X x.hi y.hi aa) ac) (jv<|Iv.mk (jI (jI (jI (X x.lo y.lo ac)<|X x.lo y.hi ac)<|X x.hi y.lo ac)<|X x.hi y.hi ac) (jz (jz (jz (X x.lo y.lo aa)<|X x.lo y.hi aa)<|X x.hi y.lo aa)<|X x.hi y.hi aa) ac)<|by rw[show jI _ _=_ from bt k,show jz _ _=_ from bt m]])
     (λm=>Y [S 90<|bw m]<|.e<|af [.b 12<|cE 33 (jv<|Iv.mk (X x.hi y.hi ac) (jz (jz (X x.lo y.lo aa)<|X x.lo y.hi aa)<|X x.hi y.lo aa) ac) (jv<|Iv.mk (jI (jI (jI (X x.lo y.lo ac)<|X x.lo y.hi ac)<|X x.hi y.lo ac)<|X x.hi y.hi ac) (jz (jz (jz (X x.lo y.lo aa)<|X x.lo y.hi aa)<|X x.hi y.lo aa)<|X x.hi y.hi aa) ac)<|by rw[show jI _ _=_ from bt k,show jz _ _=_ from bn m]]))
    (λk=>Y [S 79<|bw k,tN 84 ((((0+1)+1)+1):Int) 0,.c<|pE (X x.hi y.hi aa) (jz (jz (X x.lo y.lo aa)<|X x.lo y.hi aa)<|X x.hi y.lo aa) (h _ _ _)<|qx (qx (h _ _ _)<|h _ _ _)<|h _ _ _]<|.w (0<(jQ (X x.hi y.hi aa)<|jz (jz (X x.lo y.lo aa)<|X x.lo y.hi aa)<|X x.hi y.lo aa))
     (λm=>Y [S 90<|bu m]<|.e<|af [.b 12<|cE 33 (jv<|Iv.mk (jI (jI (X x.lo y.lo ac)<|X x.lo y.hi ac)<|X x.hi y.lo ac) (X x.hi y.hi aa) ac) (jv<|Iv.mk (jI (jI (jI (X x.lo y.lo ac)<|X x.lo y.hi ac)<|X x.hi y.lo ac)<|X x.hi y.hi ac) (jz (jz (jz (X x.lo y.lo aa)<|X x.lo y.hi aa)<|X x.hi y.lo aa)<|X x.hi y.hi aa) ac)<|by rw[show jI _ _=_ from bn k,show jz _ _=_ from bt m]])
     (λm=>Y [S 90<|bw m]<|.e<|af [.b 12<|cE 33 (jv<|Iv.mk (jI (jI (X x.lo y.lo ac)<|X x.lo y.hi ac)<|X x.hi y.lo ac) (jz (jz (X x.lo y.lo aa)<|X x.lo y.hi aa)<|X x.hi y.lo aa) ac) (jv<|Iv.mk (jI (jI (jI (X x.lo y.lo ac)<|X x.lo y.hi ac)<|X x.hi y.lo ac)<|X x.hi y.hi ac) (jz (jz (jz (X x.lo y.lo aa)<|X x.lo y.hi aa)<|X x.hi y.lo aa)<|X x.hi y.hi aa) ac)<|by rw[show jI _ _=_ from bn k,show jz _ _=_ from bn m]]))),
          iN ((((0+1)+1)+1)+1),tF 42 ((((((0+1)+1)+1)+1):Int)<4) U]<|V (O<|Iv.mk (jI (jI (jI (X x.lo y.lo ac)<|X x.lo y.hi ac)<|X x.hi y.lo ac)<|X x.hi y.hi ac) (jz (jz (jz (X x.lo y.lo aa)<|X x.lo y.hi aa)<|X x.hi y.lo aa)<|X x.hi y.hi aa) ac) (O<|nQ X E x y)<|by rw[show nQ X E x y=⟨jI (jI (jI (X x.lo y.lo ac)<|X x.lo y.hi ac)<|X x.hi y.lo ac)<|X x.hi y.hi ac,jz (jz (jz (X x.lo y.lo aa)<|X x.lo y.hi aa)<|X x.hi y.lo aa)<|X x.hi y.hi aa,ac⟩from bt ⟨⟨g,i⟩,⟨f,j⟩,⟨e,o⟩,⟨c,w⟩⟩];try rfl)
         (λw=>Y [iX (((0+1)+1)+1) 4,iX 0 2,iX 1 2,.c (d _ _ (.inr rfl)<|.inr rfl:iB T ((iJ x.hi)::(iJ y.hi)::(D p)::[]) _),iX 0 2,iX 1 2,.c (u _ _ (.inr rfl)<|.inr rfl:iB R ((iJ x.hi)::(iJ y.hi)::(D p)::[]) _),S 66<|bj c,S 69<|bk w,.c pv]<|V (O L) (O<|nQ X E x y)<|by rw[show nQ X E x y=L from bn<|by rintro⟨⟨q,r⟩,⟨z,v⟩,⟨t,s⟩,⟨n,l⟩⟩;exact w l]))
        (λc=>Y [iX (((0+1)+1)+1) 4,iX 0 2,iX 1 2,.c (d _ _ (.inr rfl)<|.inr rfl:iB T ((iJ x.hi)::(iJ y.hi)::(D p)::[]) _),iX 0 2,iX 1 2,.c (u _ _ (.inr rfl)<|.inr rfl:iB R ((iJ x.hi)::(iJ y.hi)::(D p)::[]) _),S 66<|bk c,.c pv]<|V (O L) (O<|nQ X E x y)<|by rw[show nQ X E x y=L from bn<|by rintro⟨⟨q,r⟩,⟨z,v⟩,⟨t,s⟩,⟨n,l⟩⟩;exact c n]))
       (λo=>Y [iX ((0+1)+1) 4,iX 0 2,iX 1 2,.c (d _ _ (.inr rfl)<|.inl rfl:iB T ((iJ x.hi)::(iJ y.lo)::(D p)::[]) _),iX 0 2,iX 1 2,.c (u _ _ (.inr rfl)<|.inl rfl:iB R ((iJ x.hi)::(iJ y.lo)::(D p)::[]) _),S 66<|bj e,S 69<|bk o,.c pv]<|V (O L) (O<|nQ X E x y)<|by rw[show nQ X E x y=L from bn<|by rintro⟨⟨q,r⟩,⟨z,v⟩,⟨t,s⟩,⟨n,l⟩⟩;exact o s]))
      (λe=>Y [iX ((0+1)+1) 4,iX 0 2,iX 1 2,.c (d _ _ (.inr rfl)<|.inl rfl:iB T ((iJ x.hi)::(iJ y.lo)::(D p)::[]) _),iX 0 2,iX 1 2,.c (u _ _ (.inr rfl)<|.inl rfl:iB R ((iJ x.hi)::(iJ y.lo)::(D p)::[]) _),S 66<|bk e,.c pv]<|V (O L) (O<|nQ X E x y)<|by rw[show nQ X E x y=L from bn<|by rintro⟨⟨q,r⟩,⟨z,v⟩,⟨t,s⟩,⟨n,l⟩⟩;exact e t]))
     (λj=>Y [iX (0+1) 4,iX 0 2,iX 1 2,.c (d _ _ (.inl rfl)<|.inr rfl:iB T ((iJ x.lo)::(iJ y.hi)::(D p)::[]) _),iX 0 2,iX 1 2,.c (u _ _ (.inl rfl)<|.inr rfl:iB R ((iJ x.lo)::(iJ y.hi)::(D p)::[]) _),S 66<|bj f,S 69<|bk j,.c pv]<|V (O L) (O<|nQ X E x y)<|by rw[show nQ X E x y=L from bn<|by rintro⟨⟨q,r⟩,⟨z,v⟩,⟨t,s⟩,⟨n,l⟩⟩;exact j v]))
    (λf=>Y [iX (0+1) 4,iX 0 2,iX 1 2,.c (d _ _ (.inl rfl)<|.inr rfl:iB T ((iJ x.lo)::(iJ y.hi)::(D p)::[]) _),iX 0 2,iX 1 2,.c (u _ _ (.inl rfl)<|.inr rfl:iB R ((iJ x.lo)::(iJ y.hi)::(D p)::[]) _),S 66<|bk f,.c pv]<|V (O L) (O<|nQ X E x y)<|by rw[show nQ X E x y=L from bn<|by rintro⟨⟨q,r⟩,⟨z,v⟩,⟨t,s⟩,⟨n,l⟩⟩;exact f z]))
   (λi=>Y [iX 0 4,iX 0 2,iX 1 2,.c (d _ _ (.inl rfl)<|.inl rfl:iB T ((iJ x.lo)::(iJ y.lo)::(D p)::[]) _),iX 0 2,iX 1 2,.c (u _ _ (.inl rfl)<|.inl rfl:iB R ((iJ x.lo)::(iJ y.lo)::(D p)::[]) _),S 66<|bj g,S 69<|bk i,.c pv]<|V (O L) (O<|nQ X E x y)<|by rw[show nQ X E x y=L from bn<|by rintro⟨⟨q,r⟩,⟨z,v⟩,⟨t,s⟩,⟨n,l⟩⟩;exact i r]))
  (λg=>Y [iX 0 4,iX 0 2,iX 1 2,.c (d _ _ (.inl rfl)<|.inl rfl:iB T ((iJ x.lo)::(iJ y.lo)::(D p)::[]) _),iX 0 2,iX 1 2,.c (u _ _ (.inl rfl)<|.inl rfl:iB R ((iJ x.lo)::(iJ y.lo)::(D p)::[]) _),S 66<|bk g,.c pv]<|V (O L) (O<|nQ X E x y)<|by rw[show nQ X E x y=L from bn<|by rintro⟨⟨q,r⟩,⟨z,v⟩,⟨t,s⟩,⟨n,l⟩⟩;exact g q]))
end
def aeH{y}(k:y.iE)(s:nk y≠0):y.lo.m≠0/\y.hi.m≠0:=by
 unfold nk at s;have a:y.all=ac:=by
  cases h:y.all with
  |false=>rfl
  |true=>rw[h]at s;exact absurd rfl s
 have⟨u,t,v⟩:=rk k a;rw[a]at s;simp only[bS,bE]at s;have z:∀ d:Dy,d.m=0->d.jh=0:=λd h=>by unfold Dy.jh;rw[bt h]
 have c:=Gs y.lo y.hi;rw[c]at v;constructor
 .intro x;have:=z _ x;rw[this]at s v;split at s
  .omega
  .split at s
   .split at v<;>omega
   .exact s rfl
 .intro x;have:=z _ x;rw[this]at s v;split at s
  .split at v<;>omega
  .split at s
   .omega
   .exact s rfl
def ajz a b{p}up(h:1<=p)(i:p<=4096):(lK a b p up).iE:=by
 unfold lK;split
 .exact tY
 .exact nV _ _ _ _ _ _ h i
section
variable(x y:Iv)(p:Nat)(d:x.iE)(e:y.iE)
def uo(i:8<=p:=by omega)(C:p<=512:=by omega):iB 12 [O x,O y,D p]<|O<|B x y p:=by
 by_cases k:(x.all||y.all)=aa
 .exact iL<|Y [.o 9<|.e<|Cx x y,.c<|Cw x y Z Z,ai 10 (!(x.all||y.all))<|by rw[k];rfl,.c pv]<|V (O L) (O<|B x y p)<|by rw[show B x y p=L by unfold B;rw[bt k]]
 .replace k:(x.all||y.all)=ac:=by simpa using k
  have l:x.all=ac:=by cases h:x.all;rfl;rw[h]at k;simp at k
  have g:y.all=ac:=by cases h:y.all;rfl;rw[h]at k;simp at k
  have⟨t,s,n⟩:=rk d l;have⟨r,q,m⟩:=rk e g;exact iL<|Y [.o 9<|.e<|Cx x y,.c<|Cw x y Z Z,ah 10 (!(x.all||y.all))<|by rw[k];rfl,.c<|zh (p:Int),ah 14 (mi (p:Int))<|sr.2 ⟨U,U⟩,.c<|aaq x y p 47 48 (λa b u=>jZ (nY a b) p u) (λa b u=>kg (nY a b) p u) (λa b z v=>N9 a b p (by rcases z with rfl|rfl;exact t;exact s) (by rcases v with rfl|rfl;exact r;exact q) i C) (λa b z v=>Oa a b p (by rcases z with rfl|rfl;exact t;exact s) (by rcases v with rfl|rfl;exact r;exact q) i C) λa b u=>nV _ _ _ _ _ _]<|V (O<|nQ (λa b u=>jZ (nY a b) p u) (λa b u=>kg (nY a b) p u) x y) (O<|B x y p)<|by rw[show B x y p=_ by unfold B;rw[bn<|by rw[k];decide]];rfl
def Cv(i:8<=p:=by omega)(C:p<=512:=by omega):iB 88 [O x,O y,D p]<|O<|jC x y p:=by
 by_cases k:(x.all||y.all)=aa
 .exact iL<|Y [.o 9<|.e<|Cx x y,.c<|Cw x y Z Z,ai 10 (!(x.all||y.all))<|by rw[k];rfl,.c pv]<|V (O L) (O<|jC x y p)<|by rw[show jC x y p=L by unfold jC;rw[bt<|by rw[k];rfl]]
 .replace k:(x.all||y.all)=ac:=by simpa using k
  have P:x.all=ac:=by cases h:x.all;rfl;rw[h]at k;simp at k
  have c:y.all=ac:=by cases h:y.all;rfl;rw[h]at k;simp at k
  have⟨t,r,g⟩:=rk d P;have⟨q,n,f⟩:=rk e c;by_cases s:nk y=0
  .exact iL<|Y [.o 9<|.e<|Cx x y,.c<|Cw x y Z Z,ah 10 (!(x.all||y.all))<|by rw[k];rfl,.c<|zh (p:Int),ah 14 (mi (p:Int))<|sr.2 ⟨U,U⟩,.c<|Np y Z,ah 20 ((nk y)==0)<|by rw[s];rfl,.c pv]<|V (O L) (O<|jC x y p)<|by rw[show jC x y p=L by unfold jC;rw[bt<|by rw[k,bu s];rfl]]
  .have⟨m,l⟩:=aeH e s;exact iL<|Y [.o 9<|.e<|Cx x y,.c<|Cw x y Z Z,ah 10 (!(x.all||y.all))<|by rw[k];rfl,.c<|zh (p:Int),ah 14 (mi (p:Int))<|sr.2 ⟨U,U⟩,.c<|Np y Z,ai 20 ((nk y)==0)<|by simpa using s,.c<|aaq x y p 148 149 (λa b u=>lK a b p u) (λa b u=>o9 a b p u) (λa b v z=>adf a b p (by rcases v with rfl|rfl;exact t;exact r) (by rcases z with rfl|rfl;exact q;exact n) (by rcases z with rfl|rfl;exact m;exact l) i C) (λa b v z=>adg a b p (by rcases v with rfl|rfl;exact t;exact r) (by rcases z with rfl|rfl;exact q;exact n) (by rcases z with rfl|rfl;exact m;exact l) i C) λa b u=>ajz a b u U U]<|V (O<|nQ (λa b u=>lK a b p u) (λa b u=>o9 a b p u) x y) (O<|jC x y p)<|by rw[show jC x y p=_ by unfold jC;rw[bn<|by rw[k,bw s];decide]]
end
def anu d(h:d.Zero):iB 134 [Ea d]<|I aa:=by
 have⟨x,k,y⟩:=h;exact iL<|af [S 4 x,ah 10 ((d.L.length:Int)==0)<|tS<|by rw[k];rfl,ah 15 (d.e==0)<|by rw[y];rfl]
def aav d(h:¬d.Zero):iB 134 [Ea d]<|I ac:=by
 by_cases x:d.neg=aa
 .exact iL<|af [S 4 x]
 .replace x:d.neg=ac:=by simpa using x
  by_cases k:d.L=[]
  .have y:¬d.e=0:=λq=>h ⟨x,k,q⟩
   exact iL<|af [S 4 x,ah 10 ((d.L.length:Int)==0)<|tS<|by rw[k];rfl,ai 15 (d.e==0)<|by simpa using y]
  .exact iL<|af [S 4 x,ai 10 ((d.L.length:Int)==0)<|oo λq=>k<|aws.1 q]
section
variable(x:RI)(g:x.jA)
def ant(h:x.Ok):iB 74 [mY x]<|I aa:=by
 have:=rL x.iv h.valid;rwa[<-JX,h.eq g]at this
def ans(h:¬x.Ok):iB 74 [mY x]<|I ac:=by
 have z:=g.lo;have b:=g.hi;by_cases a:x.all=aa
 .by_cases k:x.lo.Zero
  .have y:¬x.hi.Zero:=λq=>h (.inl ⟨a,k,q⟩)
   exact iL<|af [S 5 a,.c<|anu x.lo k,.c<|aav x.hi y]
  .exact iL<|af [S 5 a,.c<|aav x.lo k]
 .replace a:x.all=ac:=by simpa using a
  by_cases k:x.lo.Ok
  .by_cases y:x.hi.Ok
   .have u:¬jQ x.lo.dy x.hi.dy<=0:=λq=>h (.inr ⟨a,k,y,q⟩)
    have v:=k.valid;have t:=y.valid;have e:mY x=O x.iv:=by rw[<-JX,show x.iv.raw=x by show RI.mk x.lo.dy.raw x.hi.dy.raw x.all=x;rw[k.eq z,y.eq b]]
    rw[e];exact iL<|af [S 5 a,.c<|pZ x.iv.lo Z,.c<|pZ x.iv.hi Z,.c<|pE x.iv.lo x.iv.hi Z Z,S 30<|bw u]
   .exact iL<|af [S 5 a,.c<|Gx x.lo Z aa<|by simp[k],.c<|Gx x.hi Z ac<|by simp[y]]
  .exact iL<|af [S 5 a,.c<|Gx x.lo Z ac<|by simp[k]]
def aau:iB 74 [mY x]<|I<|og x:=by
 by_cases h:x.Ok
 .rw [ux.2 h];exact ant x g h
 .rw [show og x=ac by simpa using λq=>h<|ux.1 q];exact ans x g h
end
abbrev jf(xs:List Iv):Nat->Nat->E:=λi j=>(jv<|xs.getD i L).getD j .any
section
variable(M:List<|List Iv)
abbrev mX:Nat->Nat->E:=λi _=>K<|M.getD i []
abbrev kG:Nat->Nat:=λq=>(M.getD q []).length
abbrev mv:Nat->Nat->Nat->E:=λq i j=>(jv<|(M.getD q []).getD i L).getD j .any
end
def tK x j(h:j<7):((jv x).getD j .any).nr 2=aa:=by
 rcases j with _|_|_|_|_|_|_|j
 all_goals first|rfl|omega
def Sm xs:(K xs).nr 2=aa:=rfl
def JY{T n xs y}(x:n=xs.length):
 Bx.le (.row aa T (n+[y].length) 7 λi j=>if i<n then jf xs i j else(E.lO<|K [y]) (i-n) j) (.row aa T (xs++[y]).length 7<|jf<|xs++[y]):=by
 subst x;refine .row aK λi j k z=>⟨.jB ?_,tK _ _ z⟩
 by_cases h:i<xs.length
 .rw [bt h];show(jv<|xs.getD i L).getD j .any=(jv<|(xs++[y]).getD i L).getD j .any;congr 2;simp[bB,eF h]
 .have m:i=xs.length:=by simp at k;omega
  subst m;rw[bn h,dm];show(jv y).getD j .any=(jv<|(xs++[y]).getD xs.length L).getD j .any;congr 2;simp[bB]
def aor{T n M r p m}(x:n=M.length)(k:m=1)(y:∀ j,j<1->p.lO 0 j=K r):
 Bx.le (.row aa T (n+m) 1 λi j=>if i<n then mX M i j else(E.lO p) (i-n) j) (.row aa T (M++[r]).length 1<|mX<|M++[r]):=by
 subst x k;refine .row aK λi j u z=>⟨.jB ?_,Sm _⟩
 by_cases h:i<M.length
 .rw [bt h];show K (M.getD i [])=K ((M++[r]).getD i []);congr 1;simp[bB,eF h]
 .have N:i=M.length:= U ;subst N;rw[bn h,dm,y j z];show K r=K ((M++[r]).getD M.length []);congr 1;simp[bB]
def oh{h:Type}(y:h):[y].length=1:=rfl
def TJ{n i F}(h:i<n):((be n).map F).getD i L=F i:=by
 simp[bB,h]
def aoq{n M}(h:n=M.length):E.le (.sl aa n 1 λk _=>.sl aa (kG M k) 7<|mv M k)<|kX M:=by subst h;exact .refl _
end Go.Proofs.YthalchiobglflaaGreatDoor
namespace Go.Proofs.YthalchiobglflaaGreatDoor.Fp
section
variable {a b:Dy} {k:Int}
end
section
variable{m o p:Nat}{e j K:Int}(h:1<=p)(w:H o<=p)(r:-16384<=j)(k:K<=e)(x:K<=j)
def alQ(h:o*2^(j-K).toNat<=m*2^(e-K).toNat):o*2^(j-K).toNat<=lX m e ac p ac*2^(e+jH m e p-K).toNat:=by
 have q:lX m e ac p ac=m/2^jH m e p:=by unfold lX;simp
 rw[q];have z:=cH m<|2^jH m e p;have r:=bO m<|bG (n:=jH m e p) (aG:0<2);obtain⟨k,y⟩:∃ k,k=jH m e p:=⟨_,rfl⟩
 rw[<-y]at z r ⊢;have u:(e+(k:Int)-K).toNat=k+(e-K).toNat:= U ;rw[u,bC];generalize x:2^(e-K).toNat=E at *
 have Q:0<E:=by rw[<-x];exact bG aG 
 have v:m*E<(m/2^k+1)*(2^k*E):=by
  rw[<-bM];refine dk ?_ Q;rw[bT,bU,bL];omega
 by_cases a:e+k<=j
 .
  have t:(j-K).toNat=(j-(e+k)).toNat+(k+(e-K).toNat):= U ;rw[t,bC,bC 2 k,x]at h ⊢;rw[<-bM]at h ⊢;generalize o*2^(j-(e+k)).toNat=g at *
  have:g<m/2^k+1:=by
   apply b8;intro i;have:=bX (2^k*E) (U:m/2^k+1<=g);omega
  exact bX _ U 
 .by_cases s:k=0
  .subst s;rw[cA,eC,bU];exact h
  .
   have b:(H m:Int)-p=k:=by unfold jH at y;omega
   have J:m≠0:=by intro l;rw[l]at b;simp[H]at b;omega
   have f:=uC J;have d:2^(H m-1-k)<=m/2^k:=by
    rw[dz<|bG aG,<-bC];exact bF (bR aG<|by have:=oP J;omega) f
   have c:o<2^p:=mo.1 w;refine bF (bX _<|dK c)<|bF ?_ (bX _ d);rw[<-x,<-bC,<-bC,<-bC];exact bR aG U 
def YB(h:m*2^(e-K).toNat<=o*2^(j-K).toNat):lX m e ac p aa*2^(e+jH m e p-K).toNat<=o*2^(j-K).toNat:=by
 have Z:lX m e ac p ac=m/2^jH m e p:=by unfold lX;simp
 have C:lX m e ac p aa=m/2^jH m e p+if m%2^jH m e p≠0 then 1 else 0:=by unfold lX;simp
 have u:=cH m<|2^jH m e p;obtain⟨k,z⟩:∃ k,k=jH m e p:=⟨_,rfl⟩
 rw[C];rw[<-z]at u ⊢;have v:(e+(k:Int)-K).toNat=k+(e-K).toNat:= U ;rw[v,bC];generalize x:2^(e-K).toNat=E at *
 have Q:0<E:=by rw[<-x];exact bG aG 
 by_cases r:m%2^k=0
 .rw [bn U,bV,<-bM];refine bF (fz ?_) h;congr 1;rw[bL];omega
 .rw [bt r];have f:k≠0:=by intro y;rw[y,cA,dq]at r;exact r rfl
  have i:m/2^k*(2^k*E)<o*2^(j-K).toNat:=by
   refine bJ ?_ h;rw[<-bM];refine dk ?_ Q;rw[bL];omega
  by_cases c:e+k<=j
  .have t:(j-K).toNat=(j-(e+k)).toNat+(k+(e-K).toNat):= U ;have s:o*2^(j-K).toNat=o*2^(j-(e+k)).toNat*(2^k*E):=by rw[t,bC,bC 2 k,x,bM]
   rw[s]at i ⊢;generalize o*2^(j-(e+k)).toNat=g at *
   have:m/2^k<g:=axd i;exact bX _ this
  .
   exfalso;have b:(H m:Int)-p=k:=by unfold jH at z;omega
   have J:m≠0:=by intro y;rw[y]at r;simp at r
   have q:=uC J;have A:=oP J;have n:o<2^p:=mo.1 w;have d:o*2^(j-K).toNat<=2^(H m-1)*E:=by
    refine bF (bX _<|dK n) ?_;rw[<-x,<-bC,<-bC];exact bR aG U 
   have l:2^(H m-1-k)<=m/2^k:=by
    rw[dz<|bG aG,<-bC];exact bF (bR aG U) q
   have a:2^(H m-1)*E<=m/2^k*(2^k*E):=by
    rw[<-bM];refine bX _ ?_;have:=bX (2^k) l;rw[<-bC]at this;exact bF (bR aG U) this
   omega
end
def P2(k:Int):Rat:=(2:Rat)^k
def oZ k:0<P2 k:=Rat.zpow_pos aG 
def sK a b:P2 (a+b)=P2 a*P2 b:=Rat.zpow_add aG a b
def yG(n:Nat):P2 (n:Int)=((2^n:Nat):Rat):=by unfold P2;rw[Rat.zpow_natCast];simp
def Pd:P2 0=1:=by have:=yG 0;simpa using this
def Iy{e k}(h:k<=e):P2 e=((2^(e-k).toNat:Nat):Rat)*P2 k:=by
 rw[<-yG,<-sK];congr 1;omega
def zp{x y}k:x*P2 k<=y*P2 k↔x<=y:=
 ⟨λh=>fJ h<|oZ k,λh=>cO h<|b9<|oZ k⟩
def vD{m n:Nat}{e f K}(h:K<=e)(x:K<=f):(m:Rat)*P2 e<=(n:Rat)*P2 f↔m*2^(e-K).toNat<=n*2^(f-K).toNat:=by
 rw[Iy h,Iy x,<-fj,<-fj,zp,<-dC,<-dC,dO]
def Dy.q(d:Dy):Rat:=((d.num d.e:Int):Rat)*P2 d.e
def BC{d k}(h:pM d k):d.q=((d.num k:Int):Rat)*P2 k:=by
 unfold Dy.q;rcases h with h|h
 .rw [zC h,zC h];simp
 .rw [NR h<|cL _,Iy h,<-fj,Rat.intCast_mul,eI]
def rN a b:jQ a b<=0↔a.q<=b.q:=by
 obtain⟨k,h,x⟩:∃ k:Int,k<=a.e/\k<=b.e:=⟨min a.e b.e,U,U⟩
 rw[qd (.inr h)<|.inr x,BC<|.inr h,BC<|.inr x,zp,iu]
def Tz a b:(jl a b).q=a.q+b.q:=by
 obtain⟨k,h,x⟩:∃ k:Int,k<=a.e/\k<=b.e:=⟨min a.e b.e,U,U⟩
 rw[BC<|Lr (.inr h)<|.inr x,BC<|.inr h,BC<|.inr x,OG (.inr h)<|.inr x,Rat.intCast_add,Rat.add_mul]
def qM a:(ji a).q = -a.q:=by
 rw[BC<|IB<|.inr<|cL a.e,Kp,iw,ix];rfl
def tv s m e:(canon s m e).q=if s then -((m:Rat)*P2 e)else(m:Rat)*P2 e:=by
 rw[BC<|C9<|cL e,FF<|cL e];have:(e-e).toNat=0:= U ;rw[this];cases s<;>simp[iw,ix,eI]
def sV(a:Dy):a.q=if a.neg then -((a.m:Rat)*P2 a.e)else(a.m:Rat)*P2 a.e:=by
 unfold Dy.q Dy.num Dy.kC;have:(a.e-a.e).toNat=0:= U ;rw[this];cases a.neg<;>simp[iw,ix,eI]
def Hq a b:(ml a b).q=a.q*b.q:=by
 unfold ml;rw[tv,sV a,sV b,sK,dC];cases a.neg<;>cases b.neg<;>simp<;>grind
def uA:kq.q=0:=by rw[sV];simp[kq]
def NX{a b:Dy}(v:a.nj)(t:b.nj)(h:a.q=b.q):a=b:=by
 obtain⟨k,z,u⟩:∃ k:Int,k<=a.e/\k<=b.e:=⟨min a.e b.e,U,U⟩
 refine Qf v t (.inr z) (.inr u) ?_;rw[BC<|.inr z,BC<|.inr u]at h;have s:=(zp (x:=((a.num k:Int):Rat)) (y:=((b.num k:Int):Rat)) k).1 (by rw[h];exact cP);have r:=(zp (x:=((b.num k:Int):Rat)) (y:=((a.num k:Int):Rat)) k).1 (by rw[h];exact cP);rw[iu]at s r;omega
def BD n:(jF n).q=(n:Rat):=by
 unfold jF;rw[BC (k:=0)<|Pk<|cL 0,S3<|cL 0,Pd];simp
def CK d:0<=(mF d).q/\d.q<=(mF d).q /\ -d.q<=(mF d).q/\((mF d).q=d.q\/(mF d).q = -d.q):=by
 have h:(mF d).q=(d.m:Rat)*P2 d.e:=by rw[sV];rfl
 have x:0<=(d.m:Rat)*P2 d.e:=cw dv<|b9<|oZ _;rw[h,sV d];cases d.neg<;>simp<;>grind
def uS(d:Dy):(0<d.jh↔0<d.q)/\(d.jh<0↔d.q<0):=by
 have h:=oZ d.e;have m:d.m≠0->0<(d.m:Rat)*P2 d.e:=λx=>eJ (gO.2 U) h
 rw[sV];unfold Dy.jh;by_cases x:d.m=0
 .simp [x]
 .have:=m x;rw[bn x];cases d.neg<;>simp<;>grind
def KD a b:a.q<=(jz a b).q/\b.q<=(jz a b).q/\((jz a b).q=a.q\/(jz a b).q=b.q):=
 ⟨(rN _ _).1<|Hf a b,(rN _ _).1<|abm a b,by unfold jz;split;exact .inr rfl;exact .inl rfl⟩
def FK a b:(jI a b).q<=a.q/\(jI a b).q<=b.q/\((jI a b).q=a.q\/(jI a b).q=b.q):=
 ⟨(rN _ _).1<|Kd a b,(rN _ _).1<|abp a b,by unfold jI;split;exact .inr rfl;exact .inl rfl⟩
def GM(p:Nat)(g:Rat):Prop:=∃ (m:Nat) (e:Int),H m<=p /\ -16384<=e/\(H m:Int)+e<=16384/\g=(m:Rat)*P2 e
def G(p:Nat)(g:Rat):Prop:=GM p g\/GM p (-g)
def GM.Ko{p g}(h:GM p g):0<=g:=by
 obtain⟨m,e,_,_,_,rfl⟩:=h;exact cw dv<|b9<|oZ _
def AN p:GM p 0:=⟨0,0,by simp[tZ],U,by simp[tZ],aK⟩
section
variable{p:Nat}{g:Rat}(h:G p g)
def G.neg:G p (-g):=by
 rcases h with h|h
 .exact .inr<|by rw[gP];exact h
 .exact .inl h
def G.pos(x:0<=g):GM p g:=by
 rcases h with h|h
 .exact h
 .have:=h.Ko;have:g=0:= aP ;rw[this];exact AN p
end
def V8 k:H (2^k)=k+1:=yK (bA _)<|fG aG U
def yL:H 1=1:=V8 0
section
variable {m p:Nat} {e:Int}
section
variable(T:1<=p)
def afv(i:p<=4096)(o:nu m e ac p ac=aa):
 GM p (((2^p-1:Nat):Rat)*P2 (16384-p))/\((2^p-1:Nat):Rat)*P2 (16384-p)<=(m:Rat)*P2 e/\∀ g,GM p g->g<=((2^p-1:Nat):Rat)*P2 (16384-p):=by
 have A:2<=2^p:=by
  have:=bR (n:=2) aG T;omega
 have b:H (2^p-1)=p:=by
  obtain⟨j,rfl⟩:∃ j,p=j+1:=⟨p-1,U⟩
  have x:2^(j+1)=2^j*2:=bI _ _;have f:=bG (n:=j) (aG:0<2);exact yK U U 
 refine⟨⟨_,_,fz b,U,U,rfl⟩,?_,?_⟩
 .have⟨c,d⟩:=L9 m e p;unfold nu at o;simp only[bN,cK]at o;have⟨u,a⟩:=o;have q:=uC u;have w:=oP u;obtain⟨K,v,t⟩:∃ K:Int,K<=e/\K<=16384-p:=⟨min e<|16384-p,U,U⟩
  rw[vD t v];have k:2^(H (lX m e ac p ac)-1)*2^jH m e p<=m:=bF (bX _ q) c;have x:=bX (2^(e-K).toNat) k;rw[<-bC,<-bC]at x;refine bF (bX _<|dY _ _)<|bF ?_ x;rw[<-bC];exact bR aG U 
 .rintro g ⟨y,h,s,X,Y,rfl⟩;by_cases r:h<=16384-p
  .have:y<2^p:=mo.1 s;rw[vD (K:=h) (cL _) r];have z:(h-h).toNat=0:= U ;rw[z,cA,cr];exact bF (U:y<=2^p-1)<|apV _<|bG aG
  .rw [vD (K:=16384-p) U<|cL _];have z:((16384:Int)-p-(16384-p)).toNat=0:= U ;rw[z,cA,cr];have k:y<2^(16384-h).toNat:=by
    by_cases l:y=0
    .rw [l];exact bG aG 
    .exact mo.1 U 
   have x:=dk k<|bG (n:=(h-(16384-p)).toNat) (aG:0<2);by_cases Z:h<=16384
   .rw [<-bC,show(16384-h).toNat+(h-(16384-(p:Int))).toNat=p by omega]at x;omega
   .have:y=0:=by
     rw[show(16384-h).toNat=0 by omega]at k;simpa using k
    rw[this,cV];omega
def afu(o:¬nu m e ac p ac=aa):
 GM p (((lX m e ac p ac:Nat):Rat)*P2 (e+jH m e p))/\((lX m e ac p ac:Nat):Rat)*P2 (e+jH m e p)<=(m:Rat)*P2 e /\
 ∀ g,GM p g->g<=(m:Rat)*P2 e->g<=((lX m e ac p ac:Nat):Rat)*P2 (e+jH m e p):=by
 have⟨c,t⟩:=L9 m e p;have u:-16384<=e+(jH m e p:Int):=by unfold jH;omega
 refine⟨?_,?_,?_⟩
 .by_cases x:lX m e ac p ac=0
  .rw [x];simpa using AN p
  .have q:lX m e ac p ac<2^p:=by
    have:=Xj m e p;unfold lX;simpa using this
   unfold nu at o;simp only[dH,x,ff,gK,dw,cK]at o;exact⟨_,_,mo.2 q,u,U,rfl⟩
 .rw [vD (K:=e) U<|cL _];rw[show(e-e).toNat=0 by omega,show(e+(jH m e p:Int)-e).toNat=jH m e p by omega,cA,cr];exact c
 .rintro g ⟨s,y,b,v,r,rfl⟩ h;obtain⟨K,z,k⟩:∃ K:Int,K<=e/\K<=y:=⟨min e y,U,U⟩
  rw[vD k z]at h;rw[vD (K:=K) k U];exact alQ T b v z k h
def Wt(o:nu m e ac p aa=aa)g(v:GM p g):¬(m:Rat)*P2 e<=g:=by
 obtain⟨x,k,b,t,f,rfl⟩:=v;intro h;obtain⟨K,y,z⟩:∃ K:Int,K<=e/\K<=k:=⟨min e k,U,U⟩
 rw[vD y z]at h;have h:=YB T b t y z h;unfold nu at o;simp only[bN,cK]at o;have⟨u,d⟩:=o;have q:=uC u;have A:=oP u;have s:x<2^H x:=qW x;have r:=dk s<|bG (n:=(k-K).toNat) (aG:0<2);have l:=bX (2^(e+(jH m e p:Int)-K).toNat) q;rw[<-bC]at r l;have c:2^(H x+(k-K).toNat)<=2^(H (lX m e ac p aa)-1+(e+(jH m e p:Int)-K).toNat):=bR aG U;omega
def Ws(o:¬nu m e ac p aa=aa):
 GM p (((lX m e ac p aa:Nat):Rat)*P2 (e+jH m e p))/\(m:Rat)*P2 e<=((lX m e ac p aa:Nat):Rat)*P2 (e+jH m e p) /\
 ∀ g,GM p g->(m:Rat)*P2 e<=g->((lX m e ac p aa:Nat):Rat)*P2 (e+jH m e p)<=g:=by
 have⟨t,c⟩:=L9 m e p;have u:-16384<=e+(jH m e p:Int):=by unfold jH;omega
 refine⟨?_,?_,?_⟩
 .by_cases x:lX m e ac p aa=0
  .rw [x];simpa using AN p
  .unfold nu at o;simp only[dH,x,ff,gK,dw,cK]at o;rcases Nat.lt_or_eq_of_le (W5 m e ac p aa)with q|q
   .exact ⟨_,_,mo.2 q,u,U,rfl⟩
   .rw [q]at o ⊢;rw[V8]at o;refine⟨1,p+(e+jH m e p),by rw[yL];exact T,U,by rw[yL];omega,?_⟩;rw[sK (p:Int),yG p,show((1:Nat):Rat)=1 from rfl,fK]
 .rw [vD (K:=e) (cL _) U];rw[show(e-e).toNat=0 by omega,show(e+(jH m e p:Int)-e).toNat=jH m e p by omega,cA,cr];exact c
 .rintro g ⟨s,y,b,v,r,rfl⟩ h;obtain⟨K,z,k⟩:∃ K:Int,K<=e/\K<=y:=⟨min e y,U,U⟩
  rw[vD z k]at h;rw[vD (K:=K) U k];exact YB T b v z k h
end
end
section
variable(p:Nat)(v:Rat)(D:Dy)(E:Int)
def Dn:Prop:=(E=0->G p D.q/\D.q<=v)/\∀ g,G p g->g<=v->E=0/\g<=D.q
def Up:Prop:=(E=0->G p D.q/\v<=D.q)/\∀ g,G p g->v<=g->E=0/\D.q<=g
end
section
variable{p:Nat}{v w:Rat}{D:Dy}{E:Int}
def Dn.of(h:Dn p v D E)(k:∀ g,G p g->(g<=v↔g<=w)):Dn p w D E:=
 ⟨λe=>⟨(h.1 e).1,(k _ (h.1 e).1).1 (h.1 e).2⟩,λg x y=>h.2 g x<|(k g x).2 y⟩
def Up.of(h:Up p v D E)(k:∀ g,G p g->(v<=g↔w<=g)):Up p w D E:=
 ⟨λe=>⟨(h.1 e).1,(k _ (h.1 e).1).1 (h.1 e).2⟩,λg x y=>h.2 g x<|(k g x).2 y⟩
end
section
variable(n:Bool)(m:Nat)(e:Int){p:Nat}(u:1<=p)(i:p<=4096)
def IV:Dn p (canon n m e).q (kB n m e ac p ac)<|ko n m e ac p ac:=by
 have v:0<=(m:Rat)*P2 e:=cw dv<|b9<|oZ _;rw[tv];cases n
 .
  have E:ko ac m e ac p ac=0:=by unfold ko;simp
  rw[E];unfold kB;simp only[awZ,bS,bE];by_cases o:nu m e ac p ac=aa
  .have⟨t,y,k⟩:=afv u i o;rw[bt o];(first|unfold Dn|unfold Up);rw[tv];simp only[bS,bE];refine⟨λ_=>⟨.inl t,y⟩,λg x l=>⟨trivial,?_⟩⟩;by_cases z:0<=g
   .exact k g<|x.pos z
   .have:=t.Ko;grind
  .have⟨t,y,k⟩:=afu u o;rw[bn o];(first|unfold Dn|unfold Up);rw[tv];simp only[bS,bE];refine⟨λ_=>⟨.inl t,y⟩,λg x l=>⟨trivial,?_⟩⟩;by_cases z:0<=g
   .exact k g (x.pos z) l
   .have:=t.Ko;grind
 .unfold kB ko;simp only[Bool.bne_false,Bool.and_true,bK];by_cases o:nu m e ac p aa=aa
  .rw [bt o,bt o];refine⟨λh=>by simp at h,λg x l=>?_⟩;exact absurd (show(m:Rat)*P2 e <= -g by grind)<|Wt u o _<|x.neg.pos aP
  .have⟨t,y,k⟩:=Ws u o;rw[bn o,bn o];(first|unfold Dn|unfold Up);rw[tv];simp only[bK];refine⟨λ_=>⟨.inr<|by rw[gP];exact t,aP⟩,λg x l=>⟨trivial,?_⟩⟩;have:=k (-g) (x.neg.pos aP) aP 
   grind
def IW:Up p (canon n m e).q (kB n m e ac p aa)<|ko n m e ac p aa:=by
 have v:0<=(m:Rat)*P2 e:=cw dv<|b9<|oZ _;rw[tv];cases n
 .unfold kB ko;simp only[Bool.bne_true,fc,Bool.and_true,bK,bS,bE];by_cases o:nu m e ac p aa=aa
  .rw [bt o,bt o];refine⟨λh=>by simp at h,λg x l=>?_⟩;exact absurd l<|Wt u o _<|x.pos aP
  .have⟨t,y,k⟩:=Ws u o;rw[bn o,bn o];(first|unfold Dn|unfold Up);rw[tv];simp only[bS,bE];exact⟨λ_=>⟨.inl t,y⟩,λg x l=>⟨trivial,k g (x.pos aP) l⟩⟩
 .have E:ko aa m e ac p aa=0:=by unfold ko;simp
  rw[E];unfold kB;simp only[awZ,bS,bE,bK];by_cases o:nu m e ac p ac=aa
  .have⟨t,y,k⟩:=afv u i o;rw[bt o];(first|unfold Dn|unfold Up);rw[tv];simp only[bK];refine⟨λ_=>⟨.inr<|by rw[gP];exact t,aP⟩,λg x l=>⟨trivial,?_⟩⟩;by_cases z:0 <= -g
   .have:=k (-g)<|x.neg.pos z;grind
   .have:=t.Ko;grind
  .have⟨t,y,k⟩:=afu u o;rw[bn o];(first|unfold Dn|unfold Up);rw[tv];simp only[bK];refine⟨λ_=>⟨.inr<|by rw[gP];exact t,aP⟩,λg x l=>⟨trivial,?_⟩⟩;by_cases z:0 <= -g
   .have:=k (-g) (x.neg.pos z) aP;grind
   .have:=t.Ko;grind
end
section
variable{d:Dy}(h:d.nj){p:Nat}(x:1<=p)(i:p<=4096)
def AG:Dn p d.q (jZ d p ac)<|kg d p ac:=by
 have:=IV d.neg d.m d.e x i;rwa[h.EB]at this
def AH:Up p d.q (jZ d p aa)<|kg d p aa:=by
 have:=IW d.neg d.m d.e x i;rwa[h.EB]at this
end
section
variable{N p:Nat}{e:Int}(l:p<H N)
def QD{g}(x:GM p g):g<=(N:Rat)*P2 e\/((N+1:Nat):Rat)*P2 e<=g:=by
 obtain⟨m,h,b,z,u,rfl⟩:=x;by_cases c:e<=h
 .rw [vD (K:=e) c<|cL _,vD (K:=e) (cL _) c,show(e-e).toNat=0 by omega];omega
 .left;rw[vD (K:=h) (cL _) U,show(h-h).toNat=0 by omega,cA,cr];have k:m<2^p:=mo.1 b;have y:2^p<=N:=vC.1 l;exact bF (dK<|bJ k y)<|apV _<|bG aG
def V1{x y}(x1:(N:Rat)*P2 e<x)(v:x<((N+1:Nat):Rat)*P2 e)(t:(N:Rat)*P2 e<y)(s:y<((N+1:Nat):Rat)*P2 e){g}(k:G p g):
 (g<=x↔g<=y)/\(x<=g↔y<=g)/\(g <= -x↔g <= -y)/\(-x<=g ↔ -y<=g):=by
 have r:0<=(N:Rat)*P2 e:=cw dv<|b9<|oZ _;have z:∀ g,G p g->g<=(N:Rat)*P2 e\/((N+1:Nat):Rat)*P2 e<=g:=by
  intro g k;by_cases u:0<=g
  .exact QD l<|k.pos u
  .left;grind
 have q:=z g k;have n:=z (-g) k.neg;generalize (N:Rat)*P2 e=A at *
 generalize ((N+1:Nat):Rat)*P2 e=B at *
 refine⟨?_,?_,?_,?_⟩<;>constructor<;>intro h<;>grind
end
def Gv{N p}E(b:p<H N)neg up:kB neg N E aa p up=kB neg (2*N+1) (E-1) ac p up/\ko neg N E aa p up=ko neg (2*N+1) (E-1) ac p up:=by
 have x:(2*N+1)/2^1=N:= U ;have h:=L8 (N:=2*N+1) (E:=E-1) (more:=ac) (d:=1) (p:=p) neg up (by rw[x];exact b);have k:decide ((2*N+1)%2^1≠0)=aa:= aK ;rw[x,k,(U:E-1+((1:Nat):Int)=E)]at h;exact h
def P9{a b}(H:b.m≠0){p}(u:1<=p)(i:p<=4096):Dn p (a.q/b.q) (lK a b p ac) (o9 a b p ac)/\Up p (a.q/b.q) (lK a b p aa) (o9 a b p aa):=by
 by_cases x:a.m=0
 .have q:a.q=0:=by rw[sV,x];simp
  have z:(0:Rat)/b.q=0:=by rw[di,awz]
  unfold lK o9;rw[q,z,bt x,bt x,bt x,bt x];have l:G p 0:=.inl<|AN p;exact⟨⟨λ_=>⟨by rw[uA];exact l,by rw[uA];exact cP⟩,λg _ h=>⟨rfl,by rw[uA];exact h⟩⟩,⟨λ_=>⟨by rw[uA];exact l,by rw[uA];exact cP⟩,λg _ h=>⟨rfl,by rw[uA];exact h⟩⟩⟩
 .have y:=Qa x H p 2 aG ;unfold lK o9;rw[bn x,bn x,bn x,bn x];generalize hk:lg a b p 2=k at *
  generalize F:(a.neg != b.neg)=s;generalize hE:a.e-b.e-(k:Int)=E0;have v:(0:Rat)<(b.m:Rat):=gO.2 U;have T:=oZ b.e;have P:=oZ E0;obtain⟨w,E⟩:∃ w:Rat,w=(a.m:Rat)*P2 a.e/((b.m:Rat)*P2 b.e):=⟨_,rfl⟩
  have Z:w*((b.m:Rat)*P2 b.e)=(a.m:Rat)*P2 a.e:=by
   have:(b.m:Rat)*P2 b.e≠0:=by have:=eJ v T;grind
   rw[E];exact eh this
  have f:a.q/b.q=if s then -w else w:=by
   have K:b.q≠0:=by
    have:=eJ v T;rw[sV b];cases b.neg<;>simp<;>grind
   have q:(if s then -w else w)*b.q=a.q:=by
    rw[sV a,sV b,<-F,<-Z];cases a.neg<;>cases b.neg<;>simp<;>grind
   rw[<-q,aw0 K]
  have D:=cH (a.m*2^k) b.m;have C:=bO (a.m*2^k) (U:0<b.m);generalize hN:a.m*2^k/b.m=N at *
  generalize hR:a.m*2^k%b.m=R at *
  have m:(b.m:Rat)*(N:Rat)+(R:Rat)=(a.m:Rat)*((2^k:Nat):Rat):=by rw[<-dC,<-dC,<-eK,D]
  have r:P2 a.e=((2^k:Nat):Rat)*P2 b.e*P2 E0:=by rw[<-yG,<-sK,<-sK];congr 1;omega
  have j:w*(b.m:Rat)=((b.m:Rat)*(N:Rat)+(R:Rat))*P2 E0:=by
   have:w*(b.m:Rat)*P2 b.e=((b.m:Rat)*(N:Rat)+(R:Rat))*P2 E0*P2 b.e:=by
    rw[m,fj,Z,r];grind
   have Y:P2 b.e≠0:= aP ;have t:=congrArg (· / P2 b.e) this;simp only[aw0 Y]at t;exact t
  by_cases z:R=0
  .have I:w=(N:Rat)*P2 E0:=by
    rw[z]at j;have Y:(b.m:Rat)≠0:= aP ;have t:w*(b.m:Rat)=((N:Rat)*P2 E0)*(b.m:Rat):=by rw[j];simp;grind
    have e:=congrArg (· / (b.m:Rat)) t;simp only[aw0 Y]at e;exact e
   have J:a.q/b.q=(canon s N E0).q:=by rw[f,tv,I]
   rw[J,bw<|by simpa using z];exact⟨IV _ _ _ u i,IW _ _ _ u i⟩
  .have O:(0:Rat)<(R:Rat):=gO.2 U ;have W:(R:Rat)<(b.m:Rat):=Rat.natCast_lt_natCast.2 C;have d:(N:Rat)*P2 E0<w:=by
    apply axe (c:=(b.m:Rat)) _<|b9 v;rw[j];have:=eJ O P
    grind
   have o:w<((N+1:Nat):Rat)*P2 E0:=by
    apply axe (c:=(b.m:Rat)) _<|b9 v;rw[j,eK];have:=eJ (show(0:Rat)<(b.m:Rat)-(R:Rat)by grind) P;simp
    grind
   have X:P2 E0=2*P2 (E0-1):=by
    rw[Iy (U:E0-1<=E0),show(E0-(E0-1)).toNat=1 by omega];simp
   have zy:(N:Rat)*P2 E0<((2*N+1:Nat):Rat)*P2 (E0-1):=by
    have:=oZ<|E0-1;rw[X,eK,dC];simp;grind
   have V:((2*N+1:Nat):Rat)*P2 (E0-1)<((N+1:Nat):Rat)*P2 E0:=by
    have:=oZ<|E0-1;rw[X,eK,dC,eK];simp;grind
   rw[bu<|by simpa using z,(Gv E0 y s ac).1,(Gv E0 y s ac).2,(Gv E0 y s aa).1,(Gv E0 y s aa).2,f];have A:=IV s (2*N+1) (E0-1) u i;have B:=IW s (2*N+1) (E0-1) u i;rw[tv]at A B;refine⟨A.of λg n=>?_,B.of λg n=>?_⟩
   .have⟨S,Q,M,L⟩:=V1 y zy V d o n;cases s
    .exact S
    .exact M
   .have⟨S,Q,M,L⟩:=V1 y zy V d o n;cases s
    .exact Q
    .exact L
def Iv.kQ(x:Iv)(r:Rat):Prop:=x.all=aa\/(x.lo.q<=r/\r<=x.hi.q)
def Sub(x y:Iv):Prop:=y.all=aa\/(x.all=ac/\y.lo.q<=x.lo.q/\x.hi.q<=y.hi.q)
def Sub.kQ{x y}(h:Sub x y){r}(k:x.kQ r):y.kQ r:=by
 rcases h with h|⟨z,u,v⟩
 .exact .inl h
 .rcases k with k|⟨t,s⟩
  .rw [z]at k;cases k
  .exact .inr ⟨aP,aP⟩
def Sub.As{x y}(h:Sub x y)(k:y.all=ac):x.all=ac/\y.lo.q<=x.lo.q/\x.hi.q<=y.hi.q:=by
 rcases h with h|h
 .rw [h]at k;cases k
 .exact h
def Iv.iE.q{x:Iv}(h:x.iE):x.lo.q<=x.hi.q:=by
 rcases h with⟨_,k,y⟩|⟨_,_,_,h⟩
 .rw [k,y];exact cP
 .exact (rN _ _).1 h
section
variable{x:Iv}(h:x.iE)
def Iv.iE.BY:x.lo.nj/\x.hi.nj:=by
 rcases h with⟨_,k,y⟩|⟨_,k,y,_⟩
 .rw [k,y];exact⟨tY.canon,tY.canon⟩
 .exact ⟨k.canon,y.canon⟩
def Iv.iE.Dx:x.kQ x.lo.q:=.inr ⟨cP,h.q⟩
def Iv.iE.GL:x.kQ x.hi.q:=.inr ⟨h.q,cP⟩
end
structure Iu(p:Nat)(S:Rat->Prop)(X:Iv):Prop where
 kQ:∀ r,S r->X.kQ r
 on:X.all=false->G p X.lo.q/\G p X.hi.q
 Bp:∀ L U,G p L->G p U->(∀ r,S r->L<=r/\r<=U)->X.all=false/\L<=X.lo.q/\X.hi.q<=U
def Pn{x y}(t:x.iE)(s:y.iE)(m:x.all=ac)(l:y.all=ac){p}(g:1<=p)(i:p<=4096):
 Iu p (λr=>∃ a b,x.kQ a/\y.kQ b/\r=a+b) (jN x y p):=by
 have A:=AG (EC t.BY.1 s.BY.1) g i;have B:=AH (EC t.BY.2 s.BY.2) g i;rw[Tz]at A B;unfold jN mc;rw[m,l];simp only[awt,bS,bE];have Q:∀ r,(∃ a b,x.kQ a/\y.kQ b/\r=a+b)->x.lo.q+y.lo.q<=r/\r<=x.hi.q+y.hi.q:=by
  rintro r ⟨a,b,k,z,rfl⟩;rcases k with k|k
  .rw [m]at k;cases k
  .rcases z with z|z
   .rw [l]at z;cases z
   .grind
 have f:∀ L Z,G p L->G p Z->(∀ r,(∃ a b,x.kQ a/\y.kQ b/\r=a+b)->L<=r/\r<=Z) ->
  (kg (jl x.lo y.lo) p ac=0/\L<=(jZ (jl x.lo y.lo) p ac).q)/\kg (jl x.hi y.hi) p aa=0/\(jZ (jl x.hi y.hi) p aa).q<=Z:=λL Z u v h=>
  ⟨A.2 L u (h _ ⟨_,_,t.Dx,s.Dx,rfl⟩).1,B.2 Z v (h _ ⟨_,_,t.GL,s.GL,rfl⟩).2⟩
 split
 .rename_i e;refine⟨λ_ _=>.inl rfl,λh=>absurd h aG,λL Z u v h=>?_⟩;have⟨⟨q,_⟩,n,_⟩:=f L Z u v h;rcases e with e|e
  .exact absurd q e
  .exact absurd n e
 .rename_i e;have⟨d,c⟩:=A.1 U;have⟨j,o⟩:=B.1 U;refine⟨λr w=>.inr ?_,λ_=>⟨d,j⟩,λL Z u v h=>?_⟩
  .have⟨X,Y⟩:=Q r w;exact⟨cg c X,cg Y o⟩
  .have⟨⟨_,q⟩,_,n⟩:=f L Z u v h;exact⟨rfl,q,n⟩
def Lu{x y}p(h:x.all=aa\/y.all=aa):jN x y p=L:=by
 unfold jN;rw[bt<|by rcases h with h|h<;>rw[h]<;>simp]
def Es{x y}(h:x.iE)(k:y.iE){p}(z:1<=p)(i:p<=4096){a b}(u:x.kQ a)(v:y.kQ b):(jN x y p).kQ<|a+b:=by
 cases xa:x.all
 .cases ya:y.all
  .exact (Pn h k xa ya z i).kQ _ ⟨a,b,u,v,rfl⟩
  .rw [Lu p<|.inr ya];exact .inl rfl
 .rw [Lu p<|.inl xa];exact .inl rfl
def Yk{p D E}{f:Rat->Rat->Rat}{x y S}(v:∀ a b,(a=x.lo\/a=x.hi)->(b=y.lo\/b=y.hi)->Dn p (f a.q b.q) (D a b ac) (E a b ac)/\Up p (f a.q b.q) (D a b aa) (E a b aa)/\S (f a.q b.q))(A:∀ r,S r->(f x.lo.q y.lo.q<=r\/f x.lo.q y.hi.q<=r\/f x.hi.q y.lo.q<=r\/f x.hi.q y.hi.q<=r)/\(r<=f x.lo.q y.lo.q\/r<=f x.lo.q y.hi.q\/r<=f x.hi.q y.lo.q\/r<=f x.hi.q y.hi.q)):
 Iu p S (nQ D E x y):=by
 have⟨c,i,j⟩:=v x.lo y.lo (.inl rfl)<|.inl rfl;have⟨o,w,X⟩:=v x.lo y.hi (.inl rfl)<|.inr rfl;have⟨Y,Z,V⟩:=v x.hi y.lo (.inr rfl)<|.inl rfl;have⟨T,R,Q⟩:=v x.hi y.hi (.inr rfl)<|.inr rfl;have B:∀ L U,G p L->G p U->(∀ r,S r->L<=r/\r<=U) ->
  ((E x.lo y.lo ac=0/\L<=(D x.lo y.lo ac).q)/\E x.lo y.lo aa=0/\(D x.lo y.lo aa).q<=U)/\((E x.lo y.hi ac=0/\L<=(D x.lo y.hi ac).q)/\E x.lo y.hi aa=0/\(D x.lo y.hi aa).q<=U) /\
  ((E x.hi y.lo ac=0/\L<=(D x.hi y.lo ac).q)/\E x.hi y.lo aa=0/\(D x.hi y.lo aa).q<=U)/\((E x.hi y.hi ac=0/\L<=(D x.hi y.hi ac).q)/\E x.hi y.hi aa=0/\(D x.hi y.hi aa).q<=U):=λL U k z h=>
  ⟨⟨c.2 L k (h _ j).1,i.2 U z (h _ j).2⟩,⟨o.2 L k (h _ X).1,w.2 U z (h _ X).2⟩,⟨Y.2 L k (h _ V).1,Z.2 U z (h _ V).2⟩,⟨T.2 L k (h _ Q).1,R.2 U z (h _ Q).2⟩⟩
 unfold nQ;split
 .rename_i e;have⟨⟨I,J⟩,⟨K,O⟩,⟨W,e6⟩,⟨e7,e8⟩⟩:=e;have⟨ga,la⟩:=c.1 I;have⟨gA,lA⟩:=i.1 J;have⟨gb,lb⟩:=o.1 K;have⟨gB,lB⟩:=w.1 O;have⟨gc,lc⟩:=Y.1 W;have⟨gC,lC⟩:=Z.1 e6;have⟨gd,ld⟩:=T.1 e7;have⟨gD,lD⟩:=R.1 e8;have⟨m1,m2,P⟩:=FK (D x.lo y.lo ac)<|D x.lo y.hi ac;have⟨m4,m5,N⟩:=FK (jI (D x.lo y.lo ac)<|D x.lo y.hi ac)<|D x.hi y.lo ac;have⟨m7,m8,M⟩:=FK (jI (jI (D x.lo y.lo ac)<|D x.lo y.hi ac)<|D x.hi y.lo ac)<|D x.hi y.hi ac;have⟨n1,n2,H⟩:=KD (D x.lo y.lo aa)<|D x.lo y.hi aa;have⟨n4,n5,F⟩:=KD (jz (D x.lo y.lo aa)<|D x.lo y.hi aa)<|D x.hi y.lo aa;have⟨n7,n8,C⟩:=KD (jz (jz (D x.lo y.lo aa)<|D x.lo y.hi aa)<|D x.hi y.lo aa)<|D x.hi y.hi aa;generalize (jI (D x.lo y.lo ac)<|D x.lo y.hi ac)=u1 at *
  generalize (jI u1<|D x.hi y.lo ac)=u2 at *
  generalize (jI u2<|D x.hi y.hi ac)=u3 at *
  generalize (jz (D x.lo y.lo aa)<|D x.lo y.hi aa)=v1 at *
  generalize (jz v1<|D x.hi y.lo aa)=v2 at *
  generalize (jz v2<|D x.hi y.hi aa)=v3 at *
  refine⟨λr hr=>.inr ?_,λ_=>⟨?_,?_⟩,λL U k z h=>⟨rfl,?_,?_⟩⟩
  .have⟨u,h2⟩:=A r hr;constructor
   .show u3.q<=r;rcases u with u|u|u|u<;>grind
   .show r<=v3.q;rcases h2 with u|u|u|u<;>grind
  .show G p u3.q;rcases M with h|h
   .rw [h];rcases N with h|h
    .rw [h];rcases P with h|h<;>rw[h]<;>assumption
    .rw [h];assumption
   .rw [h];assumption
  .show G p v3.q;rcases C with h|h
   .rw [h];rcases F with h|h
    .rw [h];rcases H with h|h<;>rw[h]<;>assumption
    .rw [h];assumption
   .rw [h];assumption
  .have⟨⟨⟨_,t⟩,_,s⟩,⟨⟨_,q⟩,_,n⟩,⟨⟨_,m⟩,_,l⟩,⟨⟨_,g⟩,_,d⟩⟩:=B L U k z h;show L<=u3.q;rcases M with h|h
   .rw [h];rcases N with h|h
    .rw [h];rcases P with h|h<;>rw[h]<;>assumption
    .rw [h];assumption
   .rw [h];assumption
  .have⟨⟨⟨_,t⟩,_,s⟩,⟨⟨_,q⟩,_,n⟩,⟨⟨_,m⟩,_,l⟩,⟨⟨_,g⟩,_,d⟩⟩:=B L U k z h;show v3.q<=U;rcases C with h|h
   .rw [h];rcases F with h|h
    .rw [h];rcases H with h|h<;>rw[h]<;>assumption
    .rw [h];assumption
   .rw [h];assumption
 .rename_i e;refine⟨λ_ _=>.inl rfl,λh=>absurd h aG,λL U k z h=>?_⟩;have⟨⟨⟨t,_⟩,s,_⟩,⟨⟨q,_⟩,n,_⟩,⟨⟨m,_⟩,l,_⟩,⟨⟨g,_⟩,d,_⟩⟩:=B L U k z h;exact absurd ⟨⟨t,s⟩,⟨q,n⟩,⟨m,l⟩,g,d⟩ e
def WT{a b c d x y:Rat}(z:a<=x)(r:x<=b)(q:c<=y)(p:y<=d):
 (a*c<=x*y\/a*d<=x*y\/b*c<=x*y\/b*d<=x*y)/\(x*y<=a*c\/x*y<=a*d\/x*y<=b*c\/x*y<=b*d):=by
 have m:∀ {u v w:Rat},u<=v->0<=w->u*w<=v*w:=λh k=>cO h k
 have n:∀ {u v w:Rat},u<=v->w<=0->v*w<=u*w:=by
  intro u v w h k;have:=m h<|show 0 <= -w by grind
  grind
 have s:∀ t:Rat,(t*c<=t*y\/t*d<=t*y)/\(t*y<=t*c\/t*y<=t*d):=by
  intro t;rw[gQ t c,gQ t d,gQ t y];rcases Rat.le_total (a:=0) (b:=t)with h|h
  .exact ⟨.inl<|m q h,.inr<|m p h⟩
  .exact ⟨.inr<|n p h,.inl<|n q h⟩
 have l:=s a;have g:=s b;rcases Rat.le_total (a:=0) (b:=y)with h|h
 .have f:=m z h;have e:=m r h;clear m n s;constructor
  .rcases l.1 with k|k<;>grind
  .rcases g.2 with k|k<;>grind
 .have f:=n z h;have e:=n r h;clear m n s;constructor
  .rcases g.1 with k|k<;>grind
  .rcases l.2 with k|k<;>grind
def Iv.kQ.kN{x:Iv}{r}(h:x.kQ r)(k:x.all=ac):x.lo.q<=r/\r<=x.hi.q:=by
 rcases h with h|h
 .rw [k]at h;cases h
 .exact h
def Di a b:(ml a b).nj:=tC _ _ _
def SN{x y}(z:x.iE)(u:y.iE)(v:x.all=ac)(t:y.all=ac){p}(s:1<=p)(i:p<=4096):
 Iu p (λr=>∃ a b,x.kQ a/\y.kQ b/\r=a*b) (B x y p):=by
 unfold B;rw[v,t];simp only[awt,bS,bE];refine Yk (f:=λa b=>a*b) (λa b h k=>⟨?_,?_,a.q,b.q,?_,?_,rfl⟩) λr ⟨a,b,h,k,e⟩=>?_
 .have:=AG (Di a b) s i;rwa[Hq]at this
 .have:=AH (Di a b) s i;rwa[Hq]at this
 .rcases h with rfl|rfl;exact z.Dx;exact z.GL
 .rcases k with rfl|rfl;exact u.Dx;exact u.GL
 .have⟨q,n⟩:=h.kN v;have⟨m,l⟩:=k.kN t;rw[e];exact WT q n m l
def NI{x y}p(h:x.all=aa\/y.all=aa):B x y p=L:=by
 unfold B;rw[bt<|by rcases h with h|h<;>rw[h]<;>simp]
def SO{x y}(h:x.iE)(k:y.iE){p}(z:1<=p)(i:p<=4096){a b}(u:x.kQ a)(v:y.kQ b):(B x y p).kQ<|a*b:=by
 cases xa:x.all
 .cases ya:y.all
  .exact (SN h k xa ya z i).kQ _ ⟨a,b,u,v,rfl⟩
  .rw [NI p<|.inr ya];exact .inl rfl
 .rw [NI p<|.inl xa];exact .inl rfl
def Se{b c:Rat}(x:0<c)(h:c<=b):b⁻¹<=c⁻¹:=by
 have k:0<b:= aP ;apply fJ (c:=b*c) _<|eJ k x;have e:b⁻¹*(b*c)=c:=by rw[<-fj,awA _ aP,fK]
 have y:c⁻¹*(b*c)=b:=by rw[gQ b c,<-fj,awA _ aP,fK]
 rw[e,y];exact h
def abZ(b:Rat):(-b)⁻¹ = -b⁻¹:=by
 by_cases h:b=0
 .rw [h];simp
 .have x:(-b)⁻¹*(-b)=1:=awA _ aP ;have k:b⁻¹*b=1:=awA _ h;have y:(-b)⁻¹*(-b)*b⁻¹=b⁻¹:=by rw[x,fK]
  grind
def aap{b c:Rat}(x:b<0)(h:c<=b):b⁻¹<=c⁻¹:=by
 have:=Se (b:=-c) (c:=-b) aP aP;rw[abZ,abZ]at this
 grind
def aeK{y}(_hy:y.iE)(h:nk y≠0):y.all=ac/\(0<y.lo.q\/y.hi.q<0):=by
 unfold nk at h;cases ya:y.all
 .rw [ya]at h;simp only[bS,bE]at h;refine⟨rfl,?_⟩;split at h
  .rename_i x;exact .inl<|(uS _).1.1 x
  .split at h
   .rename_i x;exact .inr<|(uS _).2.1 x
   .exact absurd rfl h
 .rw [ya]at h;simp at h
def Uo{y}(a:y.all=ac)(h:0<y.lo.q\/y.hi.q<0):nk y≠0:=by
 unfold nk;rw[a];simp only[bS,bE];rcases h with h|h
 .rw [bt<|(uS _).1.2 h];decide
 .split
  .decide
  .rw [bt<|(uS _).2.2 h];decide
def aog{d:Dy}(h:d.q≠0):d.m≠0:=by
 intro x;apply h;rw[sV,x];simp
def Md{x y}(s:x.iE)(k:y.iE)(q:x.all=ac)(n:nk y≠0){p}(d:1<=p)(i:p<=4096):
 Iu p (λr=>∃ a b,x.kQ a/\y.kQ b/\r=a/b) (jC x y p):=by
 have⟨m,h⟩:=aeK k n;have c:=k.q;unfold jC;rw[q,m,bw n];simp only[awt,bS,bE];refine Yk (f:=λa b=>a/b) (λa b u z=>?_) λr ⟨a,b,u,z,e⟩=>?_
 .have j:b.m≠0:=aog (by rcases z with rfl|rfl<;>grind);have⟨v,t⟩:=P9 (a:=a) j d i;refine⟨v,t,a.q,b.q,?_,?_,rfl⟩
  .rcases u with rfl|rfl;exact s.Dx;exact s.GL
  .rcases z with rfl|rfl;exact k.Dx;exact k.GL
 .have⟨v,t⟩:=u.kN q;have⟨l,g⟩:=z.kN m;have o:y.hi.q⁻¹<=b⁻¹:=by
   rcases h with h|h
   .exact Se aP g
   .exact aap aP g
  have w:b⁻¹<=y.lo.q⁻¹:=by
   rcases h with h|h
   .exact Se h l
   .exact aap aP l
  have⟨X,Y⟩:=WT v t o w;rw[e];simp only[di];exact⟨aP,aP⟩
def IZ{x y}p(h:x.all=aa\/nk y=0):jC x y p=L:=by
 unfold jC;rw[bt<|by rcases h with h|h<;>rw[h]<;>simp]
def Me{x y}(k:x.iE)(z:y.iE){p}(u:1<=p)(i:p<=4096){a b}(v:x.kQ a)(t:y.kQ b):(jC x y p).kQ<|a/b:=by
 cases xa:x.all
 .by_cases h:nk y=0
  .rw [IZ p<|.inr h];exact .inl rfl
  .exact (Md k z xa h u i).kQ _ ⟨a,b,v,t,rfl⟩
 .rw [IZ p<|.inl xa];exact .inl rfl
def FA{x}(h:x.lo.q<=x.hi.q):x.hi.q<=(nX x).q /\ -x.lo.q<=(nX x).q/\((nX x).q=x.hi.q\/(nX x).q = -x.lo.q):=by
 have⟨k,y,z,a⟩:=CK x.lo;have⟨u,v,t,b⟩:=CK x.hi;have⟨s,r,c⟩:=KD (mF x.lo)<|mF x.hi;unfold nX;generalize (jz (mF x.lo)<|mF x.hi).q=M at *
 refine⟨aP,aP,?_⟩;rcases c with c|c
 .rcases a with a|a
  .grind
  .grind
 .rcases b with b|b
  .grind
  .grind
def aok{x k}(y:x.iE)(s:k.iE)(h:Sub x k)(a:k.all=ac):(nX x).q<=(nX k).q:=by
 have⟨z,u,v⟩:=h.As a;have⟨t,r,q⟩:=FA y.q;have⟨b,p,n⟩:=FA s.q
 grind
def SI{x}(k:x.iE)(a:x.all=ac):0<=(pk x).q/\(x.lo.q<=0->0<=x.hi.q->(pk x).q=0)/\(0<x.lo.q->(pk x).q=x.lo.q)/\(x.hi.q<0->(pk x).q = -x.hi.q):=by
 have l:=k.q;have⟨y,z,t,r⟩:=CK x.lo;have⟨b,q,p,m⟩:=CK x.hi;have⟨c,g,f⟩:=FK (mF x.lo)<|mF x.hi;by_cases s:nk x=0
 .have n:¬(0<x.lo.q\/x.hi.q<0):=λh=>Uo a h s
  have:pk x=kq:=by unfold pk;rw[bt s]
  rw[this,uA];refine⟨cP,λ_ _=>rfl,λh=>absurd (.inl h) n,λh=>absurd (.inr h) n⟩
 .have⟨_,e⟩:=aeK k s;have:pk x=jI (mF x.lo) (mF x.hi):=by unfold pk;rw[bn s]
  rw[this];generalize (jI (mF x.lo)<|mF x.hi).q=M at *
  generalize (mF x.lo).q=u at *
  generalize (mF x.hi).q=v at *
  refine⟨aP,aP,aP,aP⟩
def avG{x k}(y:x.iE)(s:k.iE)(h:Sub x k):Sub (jG x)<|jG k:=by
 cases xa:k.all
 .have⟨z,u,n⟩:=h.As xa;unfold jG;rw[z,xa];refine .inr ⟨rfl,?_,aok y s h xa⟩;show(pk k).q<=(pk x).q;have⟨a,m,v,t⟩:=SI y z;have⟨l,b,r,q⟩:=SI s xa;have:=y.q;by_cases c:0<k.lo.q
  .rw [r c,v aP];exact u
  .by_cases p:k.hi.q<0
   .rw [q p,t aP];grind
   .rw [b aP aP];exact a
 .refine .inl ?_;unfold jG;rw[bt xa];rfl
def Ls{x}(k:x.iE){r s}(h:x.kQ r)(v:s=r/\0<=r\/s = -r/\r<=0):(jG x).kQ s:=by
 unfold jG;cases xa:x.all
 .have⟨t,q⟩:=h.kN xa;have⟨a,p,n⟩:=FA k.q;have⟨m,b,y,z⟩:=SI k xa;refine .inr ⟨?_,?_⟩
  .show (pk x).q<=s;by_cases c:0<x.lo.q
   .rw [y c];grind
   .by_cases u:x.hi.q<0
    .rw [z u];grind
    .rw [b aP aP];grind
  .show s<=(nX x).q
   grind
 .exact .inl rfl
def Tw d:(lp d).kQ d.q:=.inr ⟨cP,cP⟩
def CH n:(kp n).kQ (n:Rat):=by have:=Tw<|jF n;rwa[BD]at this
def b(d:Dy)(p:Nat)(up:Bool):Nat->Dy×Int
 | 0=>(jZ d p up,kg d p up)
 |k+1=>if(b d p up k).2≠0 then b d p up k else(jZ (ml (b d p up k).1 d) p up,kg (ml (b d p up k).1 d) p up)
def mr(d:Dy)(n p:Nat)(up:Bool):Dy×Int:=if d.jh<0 then(ji (b (ji d) p (!up)<|n-1).1,(b (ji d) p (!up)<|n-1).2)else b d p up (n-1)
def sU(x:Iv)(n:Nat):Iv:=if n%2=0 then jG x else x
def jO(x:Iv)(n p:Nat):Iv:=
 if x.all then L else if n=0 then lp ⟨ac,1,0⟩
 else mc (mr (sU x n).lo n p ac).1 (mr (sU x n).lo n p ac).2 (mr (sU x n).hi n p aa).1 (mr (sU x n).hi n p aa).2
def pz(r:Rat):Nat->Rat
 | 0=>1
 |n+1=>pz r n*r
def FW{r}(h:0<=r):∀ n,0<=pz r n
 | 0=>by show(0:Rat)<=1;decide
 |n+1=>cw (FW h n) h
def KS{a b}(x:0<=a)(h:a<=b):∀ n,pz a n<=pz b n
 | 0=>cP
 |n+1=>by
  have i:=KS x h n;have m:=cO i x;have k:=dj h<|FW (cg x h) n;exact cg m k
def FV r:∀ n,pz (-r) n=if n%2=0 then pz r n else -pz r n
 | 0=>rfl
 |n+1=>by
  have i:=FV r n;simp only[pz,i];have:n%2=0\/n%2=1:= U ;rcases this with h|h
  .have x:(n+1)%2=1:= U ;rw[h,x];simp;grind
  .have x:(n+1)%2=0:= U ;rw[h,x];simp;grind
def T6{a b n}(x:n%2=1)(h:a<=b):pz a n<=pz b n:=by
 by_cases y:0<=a
 .exact KS y h n
 .have e:=FV (-a) n;rw[gP,x]at e;simp only[awB,bE]at e;by_cases z:0<=b
  .have u:=FW (show 0 <= -a by grind) n;have v:=FW z n
   grind
  .have k:=FV (-b) n;rw[gP,x]at k;simp only[awB,bE]at k;have:=KS (show 0 <= -b by grind) (show -b <= -a by grind) n
   grind
def Tx{d}(z:d.nj)(h:0<=d.q){p}(x:1<=p)(i:p<=4096):∀ k,(b d p ac k).2=0->0<=(b d p ac k).1.q/\(b d p ac k).1.q<=pz d.q (k+1)
 | 0,he=>by
  have A:=AG z x i;refine⟨(A.2 0 (.inl<|AN p) h).2,?_⟩;have:=(A.1 he).2;simp only[pz,fK];exact this
 |k+1,he=>by
  by_cases y:(b d p ac k).2≠0
  .exfalso;simp only[b,bt y]at he;exact y he
  .have m:(b d p ac k).2=0:= U ;have⟨u,v⟩:=Tx z h x i k m;have A:=AG (Di (b d p ac k).1 d) x i;rw[Hq]at A;simp only[b,bn y]at he ⊢;refine⟨(A.2 0 (.inl<|AN p)<|cw u h).2,?_⟩;have t:=(A.1 he).2;have s:=cO v h;exact cg t s
def Ty{d}(y:d.nj)(z:0<=d.q){p}(h:1<=p)(i:p<=4096):∀ k,(b d p aa k).2=0->pz d.q (k+1)<=(b d p aa k).1.q
 | 0,he=>by
  have A:=AH y h i;have:=(A.1 he).2;simp only[pz,fK];exact this
 |k+1,he=>by
  by_cases x:(b d p aa k).2≠0
  .exfalso;simp only[b,bt x]at he;exact x he
  .have m:(b d p aa k).2=0:= U ;have u:=Ty y z h i k m;have A:=AH (Di (b d p aa k).1 d) h i;rw[Hq]at A;simp only[b,bn x]at he ⊢;have v:=(A.1 he).2;have t:=cO u z;exact cg t v
section
variable{d:Dy}(k:d.nj){n p:Nat}(h:1<=n)(s:0<=d.q\/n%2=1)(y:1<=p)(C:p<=4096)
def ake(e:(mr d n p ac).2=0):(mr d n p ac).1.q<=pz d.q n:=by
 unfold mr at e ⊢;by_cases h:d.jh<0
 .rw [bt h]at e ⊢;have q:=(uS d).2.1 h;have D:=s.resolve_left aP;have:=Ty (Hh k) (by rw[qM];grind) y C (n-1) e;rw[(U:n-1+1=n),qM,FV,D]at this;simp only[awB,bE]at this;show(ji _).q<=_;rw[qM];simp only[fc]
  grind
 .rw [bn h]at e ⊢;have x:0<=d.q:=by
   apply ej.1;intro i;exact h<|(uS d).2.2 i
  have:=(Tx k x y C (n-1) e).2;rwa[(U:n-1+1=n)]at this
def akf(e:(mr d n p aa).2=0):pz d.q n<=(mr d n p aa).1.q:=by
 unfold mr at e ⊢;by_cases h:d.jh<0
 .rw [bt h]at e ⊢;have q:=(uS d).2.1 h;have D:=s.resolve_left aP;have:=(Tx (Hh k) (by rw[qM];grind) y C (n-1) e).2;rw[(U:n-1+1=n),qM,FV,D]at this;simp only[awB,bE]at this;show _<=(ji _).q;rw[qM];simp only[fu]
  grind
 .rw [bn h]at e ⊢;have x:0<=d.q:=by
   apply ej.1;intro i;exact h<|(uS d).2.2 i
  have:=Ty k x y C (n-1) e;rwa[(U:n-1+1=n)]at this
end
def aqp{x}(z:x.iE){n p}(l:1<=p)(i:p<=4096){r}(h:x.kQ r):(jO x n p).kQ<|pz r n:=by
 unfold jO;cases xa:x.all
 .simp only[bS,bE];by_cases u:n=0
  .rw [bt u];subst u;have e:(⟨ac,1,0⟩:Dy).q=1:= aQ ;refine .inr ⟨?_,?_⟩
   .show (⟨ac,1,0⟩:Dy).q<=1;rw[e];exact cP
   .show 1<=(⟨ac,1,0⟩:Dy).q;rw[e];exact cP
  .rw [bn u];obtain⟨s,c,w,v⟩:∃ s,(sU x n).kQ s/\(n%2=0->0<=(sU x n).lo.q/\0<=s)/\pz r n=pz s n:=by
    unfold sU;by_cases k:n%2=0
    .rw [bt k];have g:0<=(jG x).lo.q:=by
      unfold jG;rw[xa];show 0<=(pk x).q;unfold pk;split
      .rw [uA];exact cP
      .have⟨_,_,m⟩:=FK (mF x.lo)<|mF x.hi;rcases m with m|m<;>rw[m]
       .exact (CK x.lo).1
       .exact (CK x.hi).1
     by_cases f:0<=r
     .exact ⟨r,Ls z h<|.inl ⟨rfl,f⟩,λ_=>⟨g,f⟩,rfl⟩
     .refine ⟨-r,Ls z h<|.inr ⟨rfl,aP⟩,λ_=>⟨g,aP⟩,?_⟩;rw[FV,bt k]
    .rw [bn k];exact⟨r,h,λq=>absurd q k,rfl⟩
   have F:(sU x n).iE:=by unfold sU;split;exact IC z;exact z
   have a:(sU x n).all=ac:=by
    unfold sU;split
    .unfold jG;rw[xa];rfl
    .exact xa
   rw[v];generalize sU x n=y at *
   have⟨d,t⟩:=c.kN a;have⟨b,j⟩:=F.BY;unfold mc;split
   .exact .inl rfl
   .rename_i o;have D:¬n%2=0->n%2=1:=λq=> U 
    refine .inr ⟨?_,?_⟩
    .refine cg (ake b U ?_ l i U) ?_
     .by_cases k:n%2=0
      .exact .inl (w k).1
      .exact .inr<|D k
     .by_cases k:n%2=0
      .exact KS (w k).1 d n
      .exact T6 (D k) d
    .refine cg ?_ (akf j U ?_ l i U)
     .by_cases k:n%2=0
      .exact KS (w k).2 t n
      .exact T6 (D k) t
     .by_cases k:n%2=0
      .exact .inl<|cg (w k).2 t
      .exact .inr<|D k
 .rw [bt rfl];exact .inl rfl
end Go.Proofs.YthalchiobglflaaGreatDoor.Fp
namespace Go.Proofs.YthalchiobglflaaGreatDoor
open Go.RowKit Fp Pu
structure nC where
 kind:Nat
 a:Nat
 b:Nat
 n:Nat
 cn:Int
 cd:Int
structure qo where
 iK:Nat
 iz:List nC
 iR:List Nat
structure jS where
 tape:qo
 iZ:Nat
 params:List Iv
def o:nC:=⟨0,0,0,0,0,0⟩
def Kr(o:nC):List E:=[D (o.kind:Int),D (o.a:Int),D (o.b:Int),D (o.n:Int),D o.cn,D o.cd]
def Az(o:nC):E:=.agg<|Kr o
def mf(l:List nC):E:=.sl aa l.length 6 λi j=>(Kr<|l.getD i o).getD j .any
def mh(l:List Nat):E:=.sl aa l.length 1 λi _=>D (l.getD i 0:Int)
def auC(t:qo):List E:=[D (t.iK:Int),mf t.iz,mh t.iR]
def El(t:qo):E:=.agg<|auC t
def aud(s:jS):List E:=[D (s.tape.iK:Int),mf s.tape.iz,mh s.tape.iR,D (s.iZ:Int),K s.params]
def kH(s:jS):E:=.agg<|aud s
def nJ(n d:Int):Bool:=decide (1<=d)&&(decide (d<=1073741824)&&(decide (-1073741824<=n)&&(decide (n<=1073741824)&&decide (Nat.gcd n.natAbs d.natAbs=1))))
def KH{n d}(h:nJ n d=aa):1<=d/\d<=1073741824 /\ -1073741824<=n/\n<=1073741824:=by
 unfold nJ at h;simp only[bN,cK]at h;exact⟨h.1,h.2.1,h.2.2.1,h.2.2.2.1⟩
def Jg(f:ax)(x:Iv)(p:Nat):Prop:=∃ y:Iv,y.iE/\iB f [O x,D (p:Int)] (O y)
def xw:Prop:=∀ (x:Iv) (p:Nat),x.iE->8<=p->p<=512->Jg 259 x p/\Jg 261 x p/\Jg 262 x p/\Jg 263 x p/\Jg 266 x p
structure pC(o:nC)(m:Nat):Prop where
 k3:o.kind=1\/3<=o.kind
 Ar:o.kind<=13
 a:if o.kind=1 then o.a=0 else o.a<m
 b:if 3<=o.kind/\o.kind<=6 then o.b<m else o.b=0
 n:if o.kind=8 then o.n<=16 else o.n=0
 c:if o.kind=1 then nJ o.cn o.cd=true else o.cn=0/\o.cd=0
 f:o.kind<=8\/xw
structure zT(t:qo):Prop where
 iK:t.iK<=8
 iz:t.iz.length<=200
 iR:t.iR.length<=200
 op:∀ i,i<t.iz.length->pC (t.iz.getD i o) (t.iK+i)
 out:∀ i,i<t.iR.length->t.iR.getD i 0<t.iK+t.iz.length
def ss(l:List Iv):Prop:=∀ i,i<l.length->(l.getD i L).iE/\(l.getD i L).all=ac
structure mE(s:jS):Prop where
 tape:zT s.tape
 s1:1<=s.iZ
 s4:s.iZ<=4
 iR:s.tape.iR.length=s.iZ
 iK:s.tape.iK=s.iZ+s.params.length
 p4:s.params.length<=4
 params:ss s.params
structure kJ(n:Nat)(b:List Iv):Prop where
 len:b.length=n
 ok:ss b
def mU(l:List Iv):Bool:=(be l.length).any λi=>(l.getD i L).all
def ql(h:Dy):Iv:=⟨kq,h,ac⟩
def R8(x f:List Iv)(h:Dy)(p i:Nat):Iv:=jN (x.getD i L) (B (ql h) (f.getD i L) p) p
def Cs(x f:List Iv)(h:Dy)(p:Nat):List Iv:=(be x.length).map<|R8 x f h p
def aeU{h}(v:h.iE)(x:0<=h.q):(ql h).iE:=.inr ⟨rfl,tY,v,by show jQ kq h<=0;rw[rN,uA];exact x⟩
def AI d{p}(h:1<=p)(i:p<=4096)up:(jZ d p up).iE:=nV _ _ _ _ _ _ h i
def yl d{p}(h:1<=p)(i:p<=4096)up:∀ k,(b d p up k).1.iE
 | 0=>AI _ h i _
 |k+1=>by
  unfold b;split
  .exact yl d h i up k
  .exact AI _ h i _
def XM d n{p}(h:1<=p)(i:p<=4096)up:(mr d n p up).1.iE:=by
 unfold mr;split
 .exact sT<|yl _ h i _ _
 .exact yl _ h i _ _
def Td:canon ac 1 0=⟨ac,1,0⟩:=by
 have h:(canon ac 1 0).neg=ac:= aQ ;have x:(canon ac 1 0).m=1:= aQ ;have k:(canon ac 1 0).e=0:= aQ ;generalize canon ac 1 0=d at *
 cases d;simp_all
def Hm:(⟨ac,1,0⟩:Dy).iE:=by
 have h:oL<|canon ac 1 0:= aQ ;rw[<-Td];exact⟨tC _ _ _,h⟩
def FJ{x}(y:x.iE)n{p}(h:1<=p)(i:p<=4096):(jO x n p).iE:=by
 have k:=aqp y (n:=n) h i y.Dx;revert k;unfold jO;split
 .intro _;exact np
 .split
  .intro _;exact vH Hm
  .unfold mc;split
   .intro _;exact np
   .intro k;have⟨z,u⟩:=k.kN rfl;exact .inr ⟨rfl,XM _ _ h i _,XM _ _ h i _,(rN _ _).2<|cg z u⟩
def ns(l:List Iv):Prop:=∀ i,(l.getD i L).iE
def ns.push{l}(h:ns l){y}(x:y.iE):ns<|l++[y]:=λi=>by
 rw[bB,eu];split
 .have:=h i;rwa[bB]at this
 .rcases i-l.length with _|j
  .exact x
  .exact np
def ss.UK{l}(h:ss l):ns l:=λi=>by
 by_cases x:i<l.length
 .exact (h i x).1
 .rw [bB,cM U];exact np
def ns.append{l r}(h:ns l)(k:ns r):ns<|l++r:=λi=>by
 rw[bB,eu];split
 .have:=h i;rwa[bB]at this
 .have:=k<|i-l.length;rwa[bB]at this
def ame{l}(h:mU l=ac)(v:ns l):ss l:=λi x=>⟨v i,by simpa using List.any_eq_false.1 h i (ca.2 x)⟩
def amY{x f h}(y:ns x){p}(k:1<=p)(C:p<=4096)i:(R8 x f h p i).iE:=sN (y i) (nZ _ _ k C) k C
def Nl x f(h:Dy)p:(Cs x f h p).length=x.length:=by simp[Cs]
def Nk{x f h p i}(k:i<x.length):(Cs x f h p).getD i L=R8 x f h p i:=by
 simp[Cs,bB,k]
def amZ{x f h}(k:ns x){p}(y:1<=p)(C:p<=4096):ns<|Cs x f h p:=λi=>by
 by_cases z:i<x.length
 .rw [Nk z];exact amY k y C i
 .rw [bB,cM<|by rw[Nl];omega];exact np
def xX(a b:List Iv):Bool:=(be a.length).all λi=>Cu (a.getD i L)<|b.getD i L
def yZ(x:Iv)(d:Dy):Bool:=decide (oj (jl x.lo<|ji d)=0)&&decide (oj (jl x.hi d)=0)
def uH(x:Iv)(d:Dy):Iv:=⟨nD<|jl x.lo<|ji d,nD<|jl x.hi d,ac⟩
def xF(x:List Iv)(d:Dy):Bool:=(be x.length).all λi=>yZ (x.getD i L) d
def tG(x:List Iv)(d:Dy):List Iv:=if xF x d then(be x.length).map λi=>uH (x.getD i L) d else[]
def GZ(x y:Iv):Iv:=if x.all||y.all then L else⟨jI x.lo y.lo,jz x.hi y.hi,ac⟩
def xr(x:Iv)(p:Nat):Dy:=jZ (jl x.hi<|ji x.lo) p aa
def Eo(x:Iv)(p:Nat):Int:=kg (jl x.hi<|ji x.lo) p aa
def amR{x y}(h:x.iE)(k:y.iE):(GZ x y).iE:=by
 unfold GZ;cases xa:x.all
 .cases ya:y.all
  .obtain ⟨z,u⟩:x.lo.iE/\x.hi.iE:=h.kN;obtain⟨v,t⟩:y.lo.iE/\y.hi.iE:=k.kN;refine .inr ⟨rfl,rm z v,qx u t,?_⟩;rw[rN];have q:=h.q;obtain⟨a,s,_⟩:=FK x.lo y.lo;have⟨b,r,_⟩:=KD x.hi y.hi
   grind
  .exact np
 .exact np
def al0{x}(k:x.iE){d}(y:d.iE)(s:0<=d.q)(h:yZ x d=aa):(uH x d).iE:=by
 unfold yZ at h;rw[bN,cK,cK]at h;have⟨z,u⟩:=h;have r:oL<|jl x.lo<|ji d:=b8 λq=>by rw[L5 q]at z;cases z
 have v:oL<|jl x.hi d:=b8 λq=>by rw[L5 q]at u;cases u
 have⟨c,t⟩:=k.BY;unfold uH;refine .inr ⟨rfl,Ww<|EC c (sT y).canon,Ww<|EC t y.canon,?_⟩;show jQ (nD _) (nD _)<=0;rw[Dk r,Dk v,rN,Tz,Tz,qM];have:=k.q
 grind
def QI{x n}(k:kJ n x){d}(y:d.iE)(z:0<=d.q)(h:xF x d=aa):kJ n<|tG x d:=by
 unfold tG;rw[bt h];refine⟨by simp[k.len],λi u=>?_⟩;have m:i<x.length:=by simpa using u
 have e:((be x.length).map λi=>uH (x.getD i L) d).getD i L=uH (x.getD i L) d:=by simp[bB,m]
 rw[e];exact⟨al0 (k.ok i m).1 y z<|bZ.1 h i<|ca.2 m,rfl⟩
def ajN s L e(k:je L)(p:L.length<=256)(l:-1000000<=e)(O:e<=1000000):iB 90 [I s,F L,D e]<|iJ<|canon s (val L) e:=by
 refine⟨call90,λw B v K x r=>?_⟩;obtain⟨n,v,rfl,y,r⟩:=r.nm;obtain⟨m,v,rfl,f,r⟩:=r.nm;obtain⟨g,v,rfl,u,r⟩:=r.nm;obtain rfl:=r.sj;obtain rfl:=z.lr y;obtain rfl:=z.lr u;obtain⟨A,c,rfl,t⟩:=yr k f;exact(Mi s A c L e w t U (by have:=qQ L;unfold nB at this;omega) l O K).mono λe q h=>rd B w e q x h
def auP(x y:Nat):E.le (.sl ac 2 1 λi j=>[E.v<|.int .u32 (x:Int),.v<|.int .u32 (y:Int)].getD (i*1+j)<|.v<|.bool ac)<|F [x,y]:=.sl λi j h k=>by
 obtain rfl:j=0:= U ;obtain rfl|rfl:i=0\/i=1:= U 
 .exact ⟨.refl _,rfl⟩
 .exact ⟨.refl _,rfl⟩
def Ft(n:Nat):jF (n:Int)=canon ac n 0:=by
 unfold jF lV;rw[bw U,ez]
def G4(n:Nat)(h:n<4294967296):(jF (n:Int)).iE:=by
 rw[Ft];refine⟨tC _ _ _,?_⟩;by_cases x:n=0
 .subst x;exact .inl rfl
 .have:=EA (s:=ac) (e:=0) x;have b:H n<=32:=mo.2 h;refine .inr ⟨U,U,?_,U⟩;have⟨y,z,k,u⟩:=this;have:=oP k;omega
def ava x y:val [x,y]=x+4294967296*y:=by simp[val]
def VQ(d:Dy)(n p:Nat)(x:Nat):PS:=⟨41,aa,[(14,.e<|D ((x+1:Nat):Int)),(13,.e<|D<|(b d p ac x).2),(12,.box 12 0),(10,.box 10 0),(5,.box 5 0),(1,.e<|D n),(2,.e<|D p),(4,.e<|.fn 47 [])],[(12,.cells 31<|lh<|(b d p ac x).1),(10,.cells 31 ar),(5,.cells 31<|lh d)]⟩
def VR(d:Dy)(n N p:Nat)(x:Nat):PS:=⟨41,aa,[(14,.e<|D ((x+1:Nat):Int)),(13,.e<|D<|(b d p ac x).2),(12,.box 12 0),(10,.box 10 0),(5,.box 5 0),(1,.e<|D n),(2,.e<|D p),(4,.e<|.fn 47 [])],[(12,.cells 31<|lh<|(b d p ac x).1),(10,.cells 31 ar),(5,.cells 31<|lh d)]⟩
def VS(d:Dy)(n p:Nat)(x:Nat):PS:=⟨41,aa,[(14,.e<|D ((x+1:Nat):Int)),(13,.e<|D<|(b d p aa x).2),(12,.box 12 0),(10,.box 10 0),(5,.box 5 0),(1,.e<|D n),(2,.e<|D p),(4,.e<|.fn 48 [])],[(12,.cells 31<|lh<|(b d p aa x).1),(10,.cells 31 ar),(5,.cells 31<|lh d)]⟩
def VT(d:Dy)(n N p:Nat)(x:Nat):PS:=⟨41,aa,[(14,.e<|D ((x+1:Nat):Int)),(13,.e<|D<|(b d p aa x).2),(12,.box 12 0),(10,.box 10 0),(5,.box 5 0),(1,.e<|D n),(2,.e<|D p),(4,.e<|.fn 48 [])],[(12,.cells 31<|lh<|(b d p aa x).1),(10,.cells 31 ar),(5,.cells 31<|lh d)]⟩
def Gh s m e(l:(iy m).length<=256)(G:-1000000<=e:=by omega)(k:e<=1000000:=by omega):iB 90 [I s,F<|iy m,D e]<|iJ<|canon s m e:=by
 refine⟨call90,λw B v K x r=>?_⟩;obtain⟨p,v,rfl,y,r⟩:=r.nm;obtain⟨n,v,rfl,f,r⟩:=r.nm;obtain⟨g,v,rfl,u,r⟩:=r.nm;obtain rfl:=r.sj;obtain rfl:=z.lr y;obtain rfl:=z.lr u;obtain⟨A,c,rfl,t⟩:=yr (lW m) f;exact(Wp s m e A c w t l G k K).mono λe q h=>rd B w e q x h
def LC d(l:(iy d.m).length<=100000000)(G:-10000000<=d.e)(k:d.e<=10000000):iB 240 [iJ d]<|.iO [iJ<|nD d,D<|oj d]:=
 BB call240 (λA c w h _=>aiM d A c w h U U U) TM
def VU(m n:Nat)(h:(iy m).length<=256)(x:n<=65536)(f:(iy<|m*2^n).length<=256):iB 195 [F<|iy m,D n]<|F<|iy<|m*2^n:=
 iL (af [.c<|SW m n h x f])
def VC{m n}:kT m n<0↔m<n:=by unfold kT;split<;>(try split)<;>omega
def VB{m n}:¬kT m n<0↔n<=m:=by unfold kT;split<;>(try split)<;>omega
section
variable(a b:Dy)
noncomputable def ae7(s:a.iE)(r:b.iE)(q:a.m≠0)(p:b.m≠0)k(n:min a.e b.e=k)(la:(iy a.m).length<=256)(l:(iy b.m).length<=256)(e:-16384<=k)(m:a.e<=16384)(g:b.e<=16384)(z:(iy<|a.m*2^(a.e-k).toNat).length<=256)(u:(iy<|b.m*2^(b.e-k).toNat).length<=256)(f:(iy<|(a.m*2^(a.e-k).toNat)+(b.m*2^(b.e-k).toNat)).length<=256)(v:(iy<|(a.m*2^(a.e-k).toNat)-(b.m*2^(b.e-k).toNat)).length<=256)(t:(iy<|(b.m*2^(b.e-k).toNat)-(a.m*2^(a.e-k).toNat)).length<=256)(M:a.neg=b.neg->jl a b=canon a.neg ((a.m*2^(a.e-k).toNat)+(b.m*2^(b.e-k).toNat)) k)(K:a.neg≠b.neg->(b.m*2^(b.e-k).toNat)<=(a.m*2^(a.e-k).toNat)->jl a b=canon a.neg ((a.m*2^(a.e-k).toNat)-(b.m*2^(b.e-k).toNat)) k)(L:a.neg≠b.neg->(a.m*2^(a.e-k).toNat)<(b.m*2^(b.e-k).toNat)->jl a b=canon b.neg ((b.m*2^(b.e-k).toNat)-(a.m*2^(a.e-k).toNat)) k):Tr prog Tb:=
  Y [iN<|a.e-k,.o 70<|oI (a.e-k) ((a.e-k).toNat:Int),.c<|VU a.m (a.e-k).toNat la U z,iN<|b.e-k,.o 77<|oI (b.e-k) ((b.e-k).toNat:Int),.c<|VU b.m (b.e-k).toNat l U u]<|.w (a.neg=b.neg)
  (λy=>Y [S 83<|bg y,.c<|Kk (a.m*2^(a.e-k).toNat) (b.m*2^(b.e-k).toNat) z u f,.c<|Gh a.neg ((a.m*2^(a.e-k).toNat)+(b.m*2^(b.e-k).toNat)) k f,.c<|LC (canon a.neg ((a.m*2^(a.e-k).toNat)+(b.m*2^(b.e-k).toNat)) k) (by have h:=BX a.neg ((a.m*2^(a.e-k).toNat)+(b.m*2^(b.e-k).toNat)) k f;omega) (by have h:=BX a.neg ((a.m*2^(a.e-k).toNat)+(b.m*2^(b.e-k).toNat)) k f;omega)<|by have h:=BX a.neg ((a.m*2^(a.e-k).toNat)+(b.m*2^(b.e-k).toNat)) k f;omega]<|V (.iO [iJ<|nD<|canon a.neg ((a.m*2^(a.e-k).toNat)+(b.m*2^(b.e-k).toNat)) k,D<|oj<|canon a.neg ((a.m*2^(a.e-k).toNat)+(b.m*2^(b.e-k).toNat)) k]) (.iO [iJ<|nD<|jl a b,D<|oj<|jl a b])<|by rw[M y])
  (λy=>Y [S 83<|bd y,.c<|Bu (a.m*2^(a.e-k).toNat)<|b.m*2^(b.e-k).toNat]<|.w ((kT (a.m*2^(a.e-k).toNat)<|b.m*2^(b.e-k).toNat)<0)
   (λx=>Y [S 101<|bu x,.c<|FD (b.m*2^(b.e-k).toNat) (a.m*2^(a.e-k).toNat) u z<|dK<|VC.1 x,.c<|Gh b.neg ((b.m*2^(b.e-k).toNat)-(a.m*2^(a.e-k).toNat)) k t,.c<|LC (canon b.neg ((b.m*2^(b.e-k).toNat)-(a.m*2^(a.e-k).toNat)) k) (by have h:=BX b.neg ((b.m*2^(b.e-k).toNat)-(a.m*2^(a.e-k).toNat)) k t;omega) (by have h:=BX b.neg ((b.m*2^(b.e-k).toNat)-(a.m*2^(a.e-k).toNat)) k t;omega)<|by have h:=BX b.neg ((b.m*2^(b.e-k).toNat)-(a.m*2^(a.e-k).toNat)) k t;omega]<|V (.iO [iJ<|nD<|canon b.neg ((b.m*2^(b.e-k).toNat)-(a.m*2^(a.e-k).toNat)) k,D<|oj<|canon b.neg ((b.m*2^(b.e-k).toNat)-(a.m*2^(a.e-k).toNat)) k]) (.iO [iJ<|nD<|jl a b,D<|oj<|jl a b])<|by rw[L y<|VC.1 x])
   (λx=>Y [S 101<|bw x,.c<|FD (a.m*2^(a.e-k).toNat) (b.m*2^(b.e-k).toNat) z u<|VB.1 x,.c<|Gh a.neg ((a.m*2^(a.e-k).toNat)-(b.m*2^(b.e-k).toNat)) k v,.c<|LC (canon a.neg ((a.m*2^(a.e-k).toNat)-(b.m*2^(b.e-k).toNat)) k) (by have h:=BX a.neg ((a.m*2^(a.e-k).toNat)-(b.m*2^(b.e-k).toNat)) k v;omega) (by have h:=BX a.neg ((a.m*2^(a.e-k).toNat)-(b.m*2^(b.e-k).toNat)) k v;omega)<|by have h:=BX a.neg ((a.m*2^(a.e-k).toNat)-(b.m*2^(b.e-k).toNat)) k v;omega]<|V (.iO [iJ<|nD<|canon a.neg ((a.m*2^(a.e-k).toNat)-(b.m*2^(b.e-k).toNat)) k,D<|oj<|canon a.neg ((a.m*2^(a.e-k).toNat)-(b.m*2^(b.e-k).toNat)) k]) (.iO [iJ<|nD<|jl a b,D<|oj<|jl a b])<|by rw[K y<|VB.1 x]))
section
variable(d:a.iE)(c:b.iE)(m:a.m≠0)(g:b.m≠0)(k:Int)(i:min a.e b.e=k)
def ahk(la:(iy a.m).length<=256)(l:(iy b.m).length<=256)(e:-16384<=k)(z:a.e<=16384)(u:b.e<=16384)(v:(iy<|a.m*2^(a.e-k).toNat).length<=256)(t:(iy<|b.m*2^(b.e-k).toNat).length<=256)(f:(iy<|(a.m*2^(a.e-k).toNat)+(b.m*2^(b.e-k).toNat)).length<=256)(s:(iy<|(a.m*2^(a.e-k).toNat)-(b.m*2^(b.e-k).toNat)).length<=256)(r:(iy<|(b.m*2^(b.e-k).toNat)-(a.m*2^(a.e-k).toNat)).length<=256)(M:a.neg=b.neg->jl a b=canon a.neg ((a.m*2^(a.e-k).toNat)+(b.m*2^(b.e-k).toNat)) k)(K:a.neg≠b.neg->(b.m*2^(b.e-k).toNat)<=(a.m*2^(a.e-k).toNat)->jl a b=canon a.neg ((a.m*2^(a.e-k).toNat)-(b.m*2^(b.e-k).toNat)) k)(L:a.neg≠b.neg->(a.m*2^(a.e-k).toNat)<(b.m*2^(b.e-k).toNat)->jl a b=canon b.neg ((b.m*2^(b.e-k).toNat)-(a.m*2^(a.e-k).toNat)) k)(n:¬(4097<max a.iQ b.iQ-k/\(1<a.iQ-b.iQ\/1<b.iQ-a.iQ))):iB 290 [iJ a,iJ b]<|.iO [iJ<|nD<|jl a b,D<|oj<|jl a b]:=by
 have q:-16384<=a.iQ/\a.iQ<=16384:=by
  unfold Dy.iQ;rw[bn m];have:=d.range.resolve_left m;have:=d.exp;omega
 have p:-16384<=b.iQ/\b.iQ<=16384:=by
  unfold Dy.iQ;rw[bn g];have:=c.range.resolve_left g;have:=c.exp;omega
 exact iL (Y [S 18<|oo<|qg m,S 23<|oo<|qg g,.o 41<|oI (if b.e<a.e then b.e else a.e) k<|by rw[<-i];split<;>omega,.c<|pN a Z,.c<|pN b Z,.o 48<|oI (if(Dy.iQ b)>(Dy.iQ a)then(Dy.iQ b)else(Dy.iQ a)) (max a.iQ b.iQ) aR,iN<|(max a.iQ b.iQ)-k]<|.w (4097<((max a.iQ b.iQ)-k))
  (λh=>Y [S 51<|bu h,iN<|(Dy.iQ a)-(Dy.iQ b)]<|.w (1<((Dy.iQ a)-(Dy.iQ b)))
   (λx=>.x<|by exact absurd ⟨h,.inl x⟩ n)
   (λx=>Y [S 56<|bw x,iN<|(Dy.iQ b)-(Dy.iQ a)]<|.w (1<((Dy.iQ b)-(Dy.iQ a)))
    (λy=>.x<|by exact absurd ⟨h,.inr y⟩ n)
    (λy=>Y [S 61<|bw y]<|ae7 a b d c m g k i la l e z u v t f s r M K L)))
  (λh=>Y [S 51<|bw h]<|ae7 a b d c m g k i la l e z u v t f s r M K L))
def ahj(e:-16384<=k)(y:4097<max a.iQ b.iQ-k)(z:1<a.iQ-b.iQ\/1<b.iQ-a.iQ):iB 290 [iJ a,iJ b]<|.iO [iJ kq,D 9]:=by
 have t:-16384<=a.iQ/\a.iQ<=16384:=by
  unfold Dy.iQ;rw[bn m];have:=d.range.resolve_left m;have:=d.exp;omega
 have u:-16384<=b.iQ/\b.iQ<=16384:=by
  unfold Dy.iQ;rw[bn g];have:=c.range.resolve_left g;have:=c.exp;omega
 exact iL (Y [S 18<|oo<|qg m,S 23<|oo<|qg g,.o 41<|oI (if b.e<a.e then b.e else a.e) k<|by rw[<-i];split<;>omega,.c<|pN a Z,.c<|pN b Z,.o 48<|oI (if(Dy.iQ b)>(Dy.iQ a)then(Dy.iQ b)else(Dy.iQ a)) (max a.iQ b.iQ) aR,iN<|(max a.iQ b.iQ)-k,S 51<|bu y,iN<|(Dy.iQ a)-(Dy.iQ b)]<|.w (1<((Dy.iQ a)-(Dy.iQ b)))
  (λh=>af [S 56<|bu h,.o 64<|.e xv])
  (λh=>Y [S 56<|bw h,iN<|(Dy.iQ b)-(Dy.iQ a)]<|.w (1<((Dy.iQ b)-(Dy.iQ a)))
   (λx=>af [S 61<|bu x,.o 64<|.e xv])
   (λx=>.x U)))
end
def ahh(x:b.iE)(k:a.m=0):iB 290 [iJ a,iJ b]<|.iO [iJ b,D 0]:=
 iL (af [S 18<|tS<|sF.2 k,S 28<|tS<|sF.2 k,.c (by have h:=Gh b.neg b.m b.e x.iy (by have:=x.exp;omega) (by have:=x.exp;omega);rwa[x.canon.EB]at h:iB 90 [I b.neg,F<|iy b.m,D b.e]<|iJ b)])
def ahi(x:a.iE)(k:a.m≠0)(y:b.m=0):iB 290 [iJ a,iJ b]<|.iO [iJ a,D 0]:=
 iL (af [S 18<|oo<|qg k,S 23<|tS<|sF.2 y,S 28<|oo<|qg k,.c (by have h:=Gh a.neg a.m a.e x.iy (by have:=x.exp;omega) (by have:=x.exp;omega);rwa[x.canon.EB]at h:iB 90 [I a.neg,F<|iy a.m,D a.e]<|iJ a)])
section
variable(q:a.iE)(r:b.iE)
def VV:iB 290 [iJ a,iJ b]<|.iO [iJ<|nD<|jl a b,D<|oj<|jl a b]:=by
 by_cases x:a.m=0
 .rw [show jl a b=b by unfold jl;rw[bt x],Dk r.range,IP r.range];exact ahh a b r x
 by_cases y:b.m=0
 .rw [show jl a b=a by unfold jl;rw[bn x,bt y],Dk q.range,IP q.range];exact ahi a b q x y
 obtain⟨k,z⟩:∃ k,min a.e b.e=k:=⟨_,rfl⟩
 have v:=q.exp;have t:=r.exp;by_cases n:4097<max a.iQ b.iQ-k/\(1<a.iQ-b.iQ\/1<b.iQ-a.iQ)
 .have p:=at6 q r x y z n.1 n.2;rw[PW p,L5 p];exact ahj a b q r x y k z U n.1 n.2
 .have⟨f1,f2⟩:=aua q r x y z n;have l:∀ {m:Nat},H m<=4098->(iy m).length<=256:=λh=>bF (Sy (k:=129)<|bF h aG) aG 
  refine ahk a b q r x y k z q.iy r.iy U U U (l U) (l U) (l<|ahx f1 f2) (l<|bF (uX<|dY _ _) U) (l<|bF (uX<|dY _ _) U) (λh=>?_) (λh u=>ae3 x y z h u) (λh u=>ae4 x y z h u) n;have:=ae5 (s:=a.neg) x y z;rw[<-this,show(⟨a.neg,b.m,b.e⟩:Dy)=b by rw[h]]
def IK:iB 241 [iJ a,iJ b]<|.iO [iJ<|nD<|jl a<|ji b,D<|oj<|jl a<|ji b]:=by
 have h:=sT r;exact iL<|af [.c<|pZ a Z,.c<|pZ b Z,.c<|AX b Z,.c<|VV a (ji b) Z Z]
def IG:iB 242 [iJ a,iJ b]<|.iO [iJ<|nD<|jl a b,D<|oj<|jl a b]:=
 iL (af [.c<|pZ a Z,.c<|pZ b Z,.c<|VV a b Z Z])
end
end
def agS k(h:-32768<=k)(x:k<=32768):iB 239 [D k]<|I aa:=
 iL (af [tT 4 ((-32768)<=k) U,tT 7 (k<=32768) U])
def Pv d k(h:d.iE)(y:-32768<=k)(z:k<=32768):iB 185 [iJ d,D k]<|.iO [iJ<|nD<|canon d.neg d.m<|d.e+k,D<|oj<|canon d.neg d.m<|d.e+k]:=by
 have l:=h.iy;have e:=h.exp;have x:=Wn (lW d.m) l d.neg<|d.e+k;have⟨n,q⟩:=Wl (lW d.m) l d.neg (d.e+k) U U;rw[kE]at x n q;exact iL<|af [.c<|pZ d Z,.c<|agS k U U,iN<|d.e+k,.c<|Gh d.neg d.m (d.e+k) U,.c<|LC (canon d.neg d.m<|d.e+k) U U U]
def II(n:Nat)(h:n<4294967296:=by omega):iB 50 [D n]<|iJ<|jF (n:Int):=by
 have o:je [n%4294967296,n/4294967296%4294967296]:=je.cons (bO _ aG)<|je.cons (bO _ aG) je.nil;exact iL<|Y [.o 5<|.int (k:=.u64)<|rS n,tF 7 ((n:Int)<0) U,tF 11 ((n:Int)<0) U,.o 13<|.int (k:=.u32)<|yA n,.a (U:0<=(32:Int)/\(32:Int)<=((64:Nat):Int)),.o 15<|.int (k:=.u64)<|F0 n,.o 16<|.int (k:=.u32)<|yA<|n/4294967296,.o 17 (.e<|auP _ _:aj (.sl ac 2 1 λi j=>[.v<|.int .u32 ((n%4294967296:Nat):Int),.v<|.int .u32 (((n/4294967296)%4294967296:Nat):Int)].getD (i*1+j)<|.v<|.bool ac)<|F [n%4294967296,(n/4294967296)%4294967296]),.c<|ajN ac [n%4294967296,(n/4294967296)%4294967296] 0 o aK aG aG]<|V (iJ<|canon ac (val [n%4294967296,(n/4294967296)%4294967296]) 0) (iJ<|jF (n:Int))<|by rw[ava,(U:n%4294967296+4294967296*(n/4294967296%4294967296)=n),Ft]
def ang:jF 1=⟨ac,1,0⟩:=by rw[show(1:Int)=((1:Nat):Int)from rfl,Ft];exact Td
def Pt:iB 50 [D 1]<|iJ ⟨ac,1,0⟩:=by
 have:=II 1 aG;rwa[show((1:Nat):Int)=1 from rfl,ang]at this
section
variable(d:Dy)(p:Nat)(h:d.iE)
def LG(i:8<=p:=by omega)(C:p<=512:=by omega):iB 96 [iJ d,D p]<|.iO [iJ<|jZ d p ac,D<|kg d p ac]:=
 iL (af [.c<|Ob d p ac Z])
def LH(i:8<=p:=by omega)(C:p<=512:=by omega):iB 95 [iJ d,D p]<|.iO [iJ<|jZ d p aa,D<|kg d p aa]:=
 iL (af [.c<|Ob d p aa Z])
end
def KC d p up N(h:(b d p up N).2≠0):∀ k,b d p up (N+k)=b d p up N
 | 0=>rfl
 |k+1=>by
  have i:=KC d p up N h k;show(if(b d p up<|N+k).2≠0 then b d p up (N+k)else _)=_;rw[i,bt h]
def vI{d p up k}(h:(b d p up k).2=0):b d p up (k+1)=(jZ (nY (b d p up k).1 d) p up,kg (nY (b d p up k).1 d) p up):=by
 show(if(b d p up k).2≠0 then _ else _)=_;rw[bn<|not_not_intro h];rfl
section
variable(d:Dy)
def ag6(n p:Nat)(k:d.iE)(y:1<=n)(u:n<=16)(i:8<=p)(C:p<=512)(j:∀ x,x<n-1->(b d p ac x).2=0):iB 94 [iJ d,D n,D p,.fn 96 [],.fn 47 []]<|.iO [iJ (b d p ac<|n-1).1,D (b d p ac<|n-1).2]:=
 iL (af [.c<|LG d p Z,.s (Sp.jL (VQ d n p) 0 (n-1) U (λx h z=>by
    have m:=j x U;have v:=yl d (U:1<=p) (U:p<=4096) ac x;exact iU (Y [tT 24 (((x+1:Nat):Int)<n) U,ah 27 (((b d p ac x).2)==0)<|by rw[m];rfl,.c<|N9 ((b d p ac x).1) d p Z Z U U,
     iN (((x+1:Nat):Int)+1)]<|.e<|af [.o 13<|oI (kg (nY ((b d p ac x).1) d) p ac) ((b d p ac<|x+1).2)<|by rw[vI m],.b 12<|cE 31 (lh<|jZ (nY ((b d p ac x).1) d) p ac) (lh<|(b d p ac<|x+1).1)<|by rw[vI m]]) aI)
  (λh=>by
    exact iU (af [tF 24 ((((n-1)+1:Nat):Int)<n) U]) aI) aM:jK 3 Tryz.f94 (VQ d n p 0) (.exit 0) ⟨41,aa,[(13,.e<|D<|(b d p ac<|n-1).2),(12,.box 12 0),(10,.box 10 0)],[(12,.cells 31<|lh<|(b d p ac<|n-1).1),(10,.cells 31 ar)]⟩)<|af [.o 14<|oI 1 ((0+1:Nat):Int),.o 13<|oI (kg d p ac)<|(b d p ac 0).2,.b 12<|.refl<|.cells 31<|lh<|(b d p ac 0).1]])
def ag7(n N p:Nat)(y:d.iE)(z:1<=n)(u:n<=16)(i:8<=p)(C:p<=512)(o:N<n-1)(j:∀ x,x<N->(b d p ac x).2=0)(h:(b d p ac N).2≠0):iB 94 [iJ d,D n,D p,.fn 96 [],.fn 47 []]<|.iO [iJ (b d p ac N).1,D (b d p ac N).2]:=
 iL (af [.c<|LG d p Z,.s (Sp.jL (VR d n N p) 0 N U (λx k t=>by
    have m:=j x U;have v:=yl d (U:1<=p) (U:p<=4096) ac x;exact iU (Y [tT 24 (((x+1:Nat):Int)<n) U,ah 27 (((b d p ac x).2)==0)<|by rw[m];rfl,.c<|N9 ((b d p ac x).1) d p Z Z U U,
     iN (((x+1:Nat):Int)+1)]<|.e<|af [.o 13<|oI (kg (nY ((b d p ac x).1) d) p ac) ((b d p ac<|x+1).2)<|by rw[vI m],.b 12<|cE 31 (lh<|jZ (nY ((b d p ac x).1) d) p ac) (lh<|(b d p ac<|x+1).1)<|by rw[vI m]]) aI)
  (λk=>by
    exact iU (af [tT 24 (((N+1:Nat):Int)<n) U,ai 27 (((b d p ac N).2)==0)<|by simpa using h]) aI) aM:jK 3 Tryz.f94 (VR d n N p 0) (.exit 0) ⟨41,aa,[(13,.e<|D<|(b d p ac N).2),(12,.box 12 0),(10,.box 10 0)],[(12,.cells 31<|lh<|(b d p ac N).1),(10,.cells 31 ar)]⟩)<|af [.o 14<|oI 1 ((0+1:Nat):Int),.o 13<|oI (kg d p ac)<|(b d p ac 0).2,.b 12<|.refl<|.cells 31<|lh<|(b d p ac 0).1]])
section
variable(n p:Nat)(t:d.iE)(s:1<=n)(r:n<=16)(i:8<=p)(C:p<=512)
def ag8:iB 94 [iJ d,D n,D p,.fn 96 [],.fn 47 []]<|.iO [iJ (b d p ac<|n-1).1,D (b d p ac<|n-1).2]:=by
 by_cases h:∃ x,x<n-1/\decide ((b d p ac x).2≠0)=aa
 .have⟨N,z,u,v⟩:=si h;have y:(b d p ac N).2≠0:=cS u;have:=ag7 d n N p t s r i C z (λx k=>by simpa using v x k) y;have e:=KC d p ac N y<|n-1-N;rw[(U:N+(n-1-N)=n-1)]at e;rw[e];exact this
 .exact ag6 d n p t s r i C λx k=>b8 λq=>h ⟨x,k,bu q⟩
def ag9(j:∀ x,x<n-1->(b d p aa x).2=0):iB 94 [iJ d,D n,D p,.fn 95 [],.fn 48 []]<|.iO [iJ (b d p aa<|n-1).1,D (b d p aa<|n-1).2]:=
 iL (af [.c<|LH d p Z,.s (Sp.jL (VS d n p) 0 (n-1) U (λx h k=>by
    have m:=j x U;have v:=yl d (U:1<=p) (U:p<=4096) aa x;exact iU (Y [tT 24 (((x+1:Nat):Int)<n) U,ah 27 (((b d p aa x).2)==0)<|by rw[m];rfl,.c<|Oa ((b d p aa x).1) d p Z Z U U,
     iN (((x+1:Nat):Int)+1)]<|.e<|af [.o 13<|oI (kg (nY ((b d p aa x).1) d) p aa) ((b d p aa<|x+1).2)<|by rw[vI m],.b 12<|cE 31 (lh<|jZ (nY ((b d p aa x).1) d) p aa) (lh<|(b d p aa<|x+1).1)<|by rw[vI m]]) aI)
  (λh=>by
    exact iU (af [tF 24 ((((n-1)+1:Nat):Int)<n) U]) aI) aM:jK 3 Tryz.f94 (VS d n p 0) (.exit 0) ⟨41,aa,[(13,.e<|D<|(b d p aa<|n-1).2),(12,.box 12 0),(10,.box 10 0)],[(12,.cells 31<|lh<|(b d p aa<|n-1).1),(10,.cells 31 ar)]⟩)<|af [.o 14<|oI 1 ((0+1:Nat):Int),.o 13<|oI (kg d p aa)<|(b d p aa 0).2,.b 12<|.refl<|.cells 31<|lh<|(b d p aa 0).1]])
end
def aha(n N p:Nat)(y:d.iE)(z:1<=n)(u:n<=16)(i:8<=p)(C:p<=512)(o:N<n-1)(j:∀ x,x<N->(b d p aa x).2=0)(h:(b d p aa N).2≠0):iB 94 [iJ d,D n,D p,.fn 95 [],.fn 48 []]<|.iO [iJ (b d p aa N).1,D (b d p aa N).2]:=
 iL (af [.c<|LH d p Z,.s (Sp.jL (VT d n N p) 0 N U (λx k t=>by
    have m:=j x U;have v:=yl d (U:1<=p) (U:p<=4096) aa x;exact iU (Y [tT 24 (((x+1:Nat):Int)<n) U,ah 27 (((b d p aa x).2)==0)<|by rw[m];rfl,.c<|Oa ((b d p aa x).1) d p Z Z U U,
     iN (((x+1:Nat):Int)+1)]<|.e<|af [.o 13<|oI (kg (nY ((b d p aa x).1) d) p aa) ((b d p aa<|x+1).2)<|by rw[vI m],.b 12<|cE 31 (lh<|jZ (nY ((b d p aa x).1) d) p aa) (lh<|(b d p aa<|x+1).1)<|by rw[vI m]]) aI)
  (λk=>by
    exact iU (af [tT 24 (((N+1:Nat):Int)<n) U,ai 27 (((b d p aa N).2)==0)<|by simpa using h]) aI) aM:jK 3 Tryz.f94 (VT d n N p 0) (.exit 0) ⟨41,aa,[(13,.e<|D<|(b d p aa N).2),(12,.box 12 0),(10,.box 10 0)],[(12,.cells 31<|lh<|(b d p aa N).1),(10,.cells 31 ar)]⟩)<|af [.o 14<|oI 1 ((0+1:Nat):Int),.o 13<|oI (kg d p aa)<|(b d p aa 0).2,.b 12<|.refl<|.cells 31<|lh<|(b d p aa 0).1]])
def ahb(n p:Nat)(y:d.iE)(z:1<=n)(u:n<=16)(i:8<=p)(C:p<=512):iB 94 [iJ d,D n,D p,.fn 95 [],.fn 48 []]<|.iO [iJ (b d p aa<|n-1).1,D (b d p aa<|n-1).2]:=by
 by_cases h:∃ x,x<n-1/\decide ((b d p aa x).2≠0)=aa
 .have⟨N,t,s,r⟩:=si h;have v:(b d p aa N).2≠0:=cS s;have:=aha d n N p y z u i C t (λx k=>by simpa using r x k) v;have e:=KC d p aa N v<|n-1-N;rw[(U:N+(n-1-N)=n-1)]at e;rw[e];exact this
 .exact ag9 d n p y z u i C λx k=>b8 λq=>h ⟨x,k,bu q⟩
section
variable(n p:Nat)(x:d.iE)(h:¬d.jh<0)(k:1<=n)(u:n<=16)(i:8<=p)(C:p<=512)
def VD:iB 52 [iJ d,D n,D p,I ac]<|.iO [iJ (mr d n p ac).1,D (mr d n p ac).2]:=
 iL (Y [.c<|oC d Z,S 14<|bw h,.c<|ag8 d n p Z U U U U]<|V (.iO [iJ<|(b d p ac<|n-1).1,D<|(b d p ac<|n-1).2]) (.iO [iJ (mr d n p ac).1,D (mr d n p ac).2])<|by unfold mr;rw[bn h])
def VE:iB 52 [iJ d,D n,D p,I aa]<|.iO [iJ (mr d n p aa).1,D (mr d n p aa).2]:=
 iL (Y [.c<|oC d Z,S 14<|bw h,.c<|ahb d n p Z U U U U]<|V (.iO [iJ<|(b d p aa<|n-1).1,D<|(b d p aa<|n-1).2]) (.iO [iJ (mr d n p aa).1,D (mr d n p aa).2])<|by unfold mr;rw[bn h])
end
end
def aeI{d}(h:d.jh<0):¬(ji d).jh<0:=by
 rw[(uS _).2,qM];have:=(uS d).2.1 h
 grind
section
variable(d:Dy)(n p:Nat)(z:d.iE)
section
variable(h:¬d.jh<0)(x:1<=n)(k:n<=16)(i:8<=p)(C:p<=512)
def agN:iB 52 [iJ d,D (n:Int),D (p:Int),I ac]<|.iO [iJ (b d p ac<|n-1).1,D (b d p ac<|n-1).2]:=by
 have:=VD d n p z h x k i C;unfold mr at this;rwa[bn h]at this
def agO:iB 52 [iJ d,D (n:Int),D (p:Int),I aa]<|.iO [iJ (b d p aa<|n-1).1,D (b d p aa<|n-1).2]:=by
 have:=VE d n p z h x k i C;unfold mr at this;rwa[bn h]at this
end
def agL(h:d.jh<0)(x:1<=n)(k:n<=16)(i:8<=p)(C:p<=512):iB 52 [iJ d,D n,D p,I ac]<|.iO [iJ (mr d n p ac).1,D (mr d n p ac).2]:=by
 have J:=sT z;have y:=aeI h;have v:=yl (ji d) (U:1<=p) (U:p<=4096) aa<|n-1;exact iL<|Y [.c<|oC d Z,S 14<|bu h,.c<|AX d Z,.c<|agO (ji d) n p J y x k i C,.c<|AX ((b (ji d) p aa<|n-1).1) Z]<|V (.iO [iJ<|ji<|(b (ji d) p aa<|n-1).1,D<|(b (ji d) p aa<|n-1).2]) (.iO [iJ (mr d n p ac).1,D (mr d n p ac).2])<|by unfold mr;rw[bt h];rfl
def VF(h:1<=n)(k:n<=16)(i:8<=p)(C:p<=512):iB 52 [iJ d,D (n:Int),D (p:Int),I ac]<|.iO [iJ (mr d n p ac).1,D (mr d n p ac).2]:=by
 by_cases x:d.jh<0
 .exact agL d n p z x h k i C
 .exact VD d n p z x h k i C
def agM(h:d.jh<0)(x:1<=n)(k:n<=16)(i:8<=p)(C:p<=512):iB 52 [iJ d,D n,D p,I aa]<|.iO [iJ (mr d n p aa).1,D (mr d n p aa).2]:=by
 have J:=sT z;have y:=aeI h;have v:=yl (ji d) (U:1<=p) (U:p<=4096) ac<|n-1;exact iL<|Y [.c<|oC d Z,S 14<|bu h,.c<|AX d Z,.c<|agN (ji d) n p J y x k i C,.c<|AX ((b (ji d) p ac<|n-1).1) Z]<|V (.iO [iJ<|ji<|(b (ji d) p ac<|n-1).1,D<|(b (ji d) p ac<|n-1).2]) (.iO [iJ (mr d n p aa).1,D (mr d n p aa).2])<|by unfold mr;rw[bt h];rfl
def VG(h:1<=n)(k:n<=16)(i:8<=p)(C:p<=512):iB 52 [iJ d,D (n:Int),D (p:Int),I aa]<|.iO [iJ (mr d n p aa).1,D (mr d n p aa).2]:=by
 by_cases x:d.jh<0
 .exact agM d n p z x h k i C
 .exact VE d n p z x h k i C
end
section
variable(x:Iv)(n p:Nat)(y:x.iE)
def ahc(h:x.all=aa)(k:n<=16)(i:8<=p)(C:p<=512):iB 13 [O x,D n,D p]<|O<|jO x n p:=
 iL (Y [.o 12<|.e<|lM x,.c<|se x Z,ai 13 (!x.all)<|by rw[h];rfl,.c pv]<|V (O L) (O<|jO x n p)<|by unfold jO;rw[bt h])
def ahf(h:x.all=ac)(k:n=0)(i:8<=p)(C:p<=512):iB 13 [O x,D n,D p]<|O<|jO x n p:=by
 have v:=Hm;exact iL<|Y [.o 12<|.e<|lM x,.c<|se x Z,ah 13 (!x.all)<|by rw[h];rfl,.c<|zh (p:Int),ah 17 (mi (p:Int))<|sr.2 ⟨U,U⟩,tF 22 ((n:Int)<0) U,tF 26 (16<(n:Int)) U,S 30<|tS k,.c Pt,.c<|xg (Dy.mk ac 1 0) Z]<|V (O<|lp<|Dy.mk ac 1 0) (O<|jO x n p)<|by unfold jO;rw[bn<|by rw[h];decide,bt k]
section
variable(a:x.all=ac)(z:n≠0)(h:n<=16)
def ahd(h:n%2=0)(i:8<=p)(C:p<=512):iB 13 [O x,D n,D p]<|O<|jO x n p:=by
 have v:=IC y;have⟨w,k⟩:=v.kN;exact iL<|Y [.o 12<|.e<|lM x,.c<|se x Z,ah 13 (!x.all)<|by rw[a];rfl,.c<|zh (p:Int),ah 17 (mi (p:Int))<|sr.2 ⟨U,U⟩,tF 22 ((n:Int)<0) U,tF 26 (16<(n:Int)) U,S 30<|oo z,.a (U:0<(2:Int)),.o 34<|oI (Int.tmod (n:Int) 2) ((n%2:Nat):Int)<|by rw[awC U];omega,S 35<|tS h,.c<|Sg x Z,.c<|VF ((jG x).lo) n p Z U U U U,.c<|VG ((jG x).hi) n p Z U U U U,.c<|Fv ((mr ((jG x).lo) n p ac).1) ((mr ((jG x).hi) n p aa).1) ((mr ((jG x).lo) n p ac).2)<|(mr ((jG x).hi) n p aa).2]<|V (O<|mc ((mr ((jG x).lo) n p ac).1) ((mr ((jG x).lo) n p ac).2) ((mr ((jG x).hi) n p aa).1)<|(mr ((jG x).hi) n p aa).2) (O<|jO x n p)<|by unfold jO sU;rw[bn<|by rw[a];decide,bn z,bt h]
def ahe(h:¬n%2=0)(i:8<=p)(C:p<=512):iB 13 [O x,D n,D p]<|O<|jO x n p:=by
 have v:=y;have⟨w,k⟩:=v.kN;exact iL<|Y [.o 12<|.e<|lM x,.c<|se x Z,ah 13 (!x.all)<|by rw[a];rfl,.c<|zh (p:Int),ah 17 (mi (p:Int))<|sr.2 ⟨U,U⟩,tF 22 ((n:Int)<0) U,tF 26 (16<(n:Int)) U,S 30<|oo z,.a (U:0<(2:Int)),.o 34<|oI (Int.tmod (n:Int) 2) ((n%2:Nat):Int)<|by rw[awC U];omega,S 35<|oo h,.c<|VF x.lo n p Z U U U U,.c<|VG x.hi n p Z U U U U,.c<|Fv ((mr x.lo n p ac).1) ((mr x.hi n p aa).1) ((mr x.lo n p ac).2)<|(mr x.hi n p aa).2]<|V (O<|mc ((mr x.lo n p ac).1) ((mr x.lo n p ac).2) ((mr x.hi n p aa).1)<|(mr x.hi n p aa).2) (O<|jO x n p)<|by unfold jO sU;rw[bn<|by rw[a];decide,bn z,bn h]
end
def Gj(h:n<=16:=by omega)(i:8<=p:=by omega)(C:p<=512:=by omega):iB 13 [O x,D (n:Int),D (p:Int)]<|O<|jO x n p:=by
 cases ha:x.all with
 |true=>exact ahc x n p y ha h i C
 |false=>
  by_cases k:n=0
  .exact ahf x n p y ha k i C
  .by_cases e:n%2=0
   .exact ahd x n p y ha k h e i C
   .exact ahe x n p y ha k h e i C
end
def agV x y(k:x.iE)(z:y.iE)(a:x.all=ac)(h:y.all=ac):iB 243 [O x,O y]<|O<|GZ x y:=by
 have⟨v,u⟩:=k.kN;have⟨t,s⟩:=z.kN;exact iL<|Y [.o 7<|.e<|Cx x y,.c<|Cw x y Z Z,ah 8 (!(x.all||y.all))<|by rw[a,h];rfl,.c<|G5 x.lo y.lo Z Z,.c<|G6 x.hi y.hi Z Z]<|V (O<|Iv.mk (jI x.lo y.lo) (jz x.hi y.hi) ac) (O<|GZ x y)<|by unfold GZ;rw[a,h];rfl
def V0(z:Int):(z==0)=decide (z=0):=by by_cases h:z=0<;>simp[h]
def Pw x(p:Nat)(h:x.iE)(a:x.all=ac)(i:8<=p)(C:p<=512):iB 245 [O x,D p]<|.iO [iJ<|xr x p,I<|decide (Eo x p=0)]:=by
 have⟨v,k⟩:=h.kN;have y:=sT v;exact iL<|Y [.o 9<|.e<|lM x,.c<|se x Z,ah 10 (!x.all)<|by rw[a];rfl,.c<|zh (p:Int),ah 14 (mi (p:Int))<|sr.2 ⟨U,U⟩,.c<|AX x.lo Z,.c<|adb x.hi (ji x.lo) p Z Z U U]<|V (.iO [iJ<|jZ (jl x.hi<|ji x.lo) p aa,I<|(kg (jl x.hi<|ji x.lo) p aa)==0]) (.iO [iJ<|xr x p,I<|decide (Eo x p=0)])<|by rw[V0];rfl
def LD x y:Cu x y=(y.all||(!x.all&&(decide (jQ y.lo x.lo<=0)&&decide (jQ x.hi y.hi<=0)))):=rfl
def VN x y(u:x.iE)(v:y.iE):iB 25 [O x,O y]<|I<|Cu x y:=by
 have⟨t,s⟩:=u.kN;have⟨r,q⟩:=v.kN;exact iL (Y [.c<|rL x Z,.c<|rL y Z]<|.w (y.all=aa)
  (λk=>Y [S 14 k]<|V (I aa) (I<|Cu x y)<|by rw[LD];simp[k])
  (λk=>Y [S 14<|bh k]<|.w (x.all=aa)
   (λh=>Y [S 17 h]<|V (I ac) (I<|Cu x y)<|by rw[LD];simp[k,h])
   (λh=>Y [S 17<|bh h,.c<|pE y.lo x.lo Z Z]<|.w ((jQ y.lo x.lo)<=0)
    (λz=>Y [S 25<|bu z,.c<|pE x.hi y.hi Z Z]<|V (I<|decide ((jQ x.hi y.hi)<=0)) (I<|Cu x y)<|by rw[LD];simp[k,h,z])
    (λz=>Y [S 25<|bw z]<|V (I ac) (I<|Cu x y)<|by rw[LD];simp[k,h,z]))))
def avI{x:Type}{l:List x}{i d}(h:i<l.length):l.getD i d=l[i]:=by
 rw[bB,bH h];rfl
def anA{T n z k F y}(u:n=k)(w:z=k+1)(v:y=F k):
 Bx.le (.row aa T (n+[y].length) 7 λi j=>if i<n then jf ((be k).map F) i j else(E.lO<|K [y]) (i-n) j) (.row aa T z 7<|jf<|(be<|k+1).map F):=by
 subst u w v;refine .row rfl λi j x t=>⟨.jB ?_,tK _ _ t⟩
 have x:i<n+1:=x;by_cases h:i<n
 .rw [bt h];simp only[jf];rw[TJ h,TJ x]
 .have m:i=n:= U ;subst m;rw[bn h,dm];simp only[jf];rw[TJ x];rfl
def ub T k  F :=anA (T:=T) (k:=k) (F:=F) rfl rfl rfl
def NB{n M}(h:n=M.length):E.le (.sl aa n 1<|mX M)<|kX M:=by subst h;exact .refl _
def uO{n M}(h:n=M.length):E.le (.sl aa n 7<|jf M)<|K M:=by subst h;exact .refl _
def FE(n:Nat)(h:n<4294967296:=by omega):(kp (n:Int)).iE:=vH<|G4 n h
def aiz m e:(canon ac m e).neg=ac:=by unfold canon;split<;>rfl
def am9{c:Nat}(h:0<c):(jF (c:Int)).m≠0:=by
 rw[Ft];exact(EA (s:=ac) (e:=0) U).2.2.1
def aph{c:Nat}(h:0<c):nk (kp (c:Int))=1:=by
 unfold nk kp lp;simp only[bS,bE];rw[bt];unfold Dy.jh;rw[bn<|am9 h,show(jF (c:Int)).neg=ac by rw[Ft];exact aiz _ _];simp
section
variable {m x:List<|List Iv} {h k:Iv} {n p:Nat}
def S2(j:Nat)(h:j<4294967296):(kp (j:Int)).iE:=vH<|G4 j h
end
def aca(c:Nat):(kp (c:Int)).lo.q=(c:Rat)/\(kp (c:Int)).hi.q=(c:Rat)/\(kp (c:Int)).all=ac:=by
 refine⟨?_,?_,rfl⟩
 .show (jF _).q=_;rw[BD];exact eI c
 .show (jF _).q=_;rw[BD];exact eI c
def Hy s m e(l:(iy m).length<=3000:=by omega)(G:-1000000<=e:=by omega)(k:e<=1000000:=by omega):iB 133 [I s,F<|iy m,D e]<|iJ<|canon s m e:=by
 refine⟨call133,λw B v K x r=>?_⟩;obtain⟨p,v,rfl,y,r⟩:=r.nm;obtain⟨n,v,rfl,f,r⟩:=r.nm;obtain⟨g,v,rfl,u,r⟩:=r.nm;obtain rfl:=r.sj;obtain rfl:=z.lr y;obtain rfl:=z.lr u;obtain⟨A,c,rfl,t⟩:=yr (lW m) f;have:=KL s A c (iy m) e w t l G k;rw[kE]at this;exact this.mono λe q h=>rd B w e q x h
def Ec a(x:a.iE):iB 84 [iJ a]<|I aa:=BB call84 (λA c w h _=>arP a A c w h x) rv
def AE a:iB 118 [iJ a]<|D a.jh:=BB call118 (λA c w h _=>arL a A c w h) rv
def uU a:iB 120 [iJ a]<|iJ<|ji a:=
 BB call120 (λA c w h _=>by
  have:=arB a.neg A c (iy a.m) a.e w h<|xq _;rw[kE]at this;exact this) rd
def Og a(x:yF a):iB 142 [iJ a]<|D a.iQ:=BB call142 (λA c w h _=>arO a A c w h x) rv
def adx(n:Nat)(x:n<4294967296):iB 73 [D (n:Int)]<|iJ<|canon ac n 0:=by
 refine⟨call73,λw B v K k r=>?_⟩;obtain⟨u,v,rfl,y,r⟩:=r.nm;obtain rfl:=r.sj;obtain rfl:=z.lr y;exact(ary n w x).mono λe t h=>rd B w e t k h
def adv a b r(x:r=aa↔a=b)(y:(iy a.m).length<=100000)(z:(iy b.m).length<=100000):iB 98 [iJ a,iJ b]<|I r:=
 Tv call98 (λA c u v w h k _=>arv a b A u c v w _ h k y z x) rv
end Go.Proofs.YthalchiobglflaaGreatDoor
namespace Go.Proofs.YthalchiobglflaaGreatDoor.Fp
def abb m k:kT (m/2^k*2^k) m=0↔m%2^k=0:=by
 have h:=cH m<|2^k;rw[bL]at h;unfold kT;split
 .simp;omega
 .split
  .have:=dB m<|2^k;omega
  .simp;omega
section
variable{g up more:Bool}{m p q:Nat}{e:Int}(k:lX m e more p (g != up)=q)
def W6(h:q=0\/¬16384<(H q:Int)+e+jH m e p):kB g m e more p up=canon g q (e+jH m e p)/\ko g m e more p up=0:=by
 have o:nu m e more p (g != up)=ac:=by
  unfold nu;rw[k];rcases h with h|h
  .simp [h]
  .simp [h]
 unfold kB ko;rw[o,k];simp
def W8(x:q≠0)(h:16384<(H q:Int)+e+jH m e p):
 ((g != up)=aa->kB g m e more p up=kq/\ko g m e more p up=9)/\((g != up)=ac->kB g m e more p up=canon g (2^p-1) (16384-p)/\ko g m e more p up=0):=by
 have o:nu m e more p (g != up)=aa:=by unfold nu;rw[k];simp[x,h]
 unfold kB ko;rw[o];constructor
 .intro n;rw[n];exact⟨rfl,rfl⟩
 .intro n;rw[n];exact⟨rfl,rfl⟩
end
end Go.Proofs.YthalchiobglflaaGreatDoor.Fp
namespace Go.Proofs.YthalchiobglflaaGreatDoor
open Go.RowKit Fp Pu
def arI d k(x:d.iE)(l:-32768<=k)(y:k<=32768)(r:oL<|canon d.neg d.m<|d.e+k):iB 72 [iJ d,D k]<|.iO [iJ<|canon d.neg d.m<|d.e+k,D 0]:=by
 refine⟨call72,λw B v K m J=>?_⟩;obtain⟨p,v,rfl,u,J⟩:=J.nm;obtain⟨n,v,rfl,t,J⟩:=J.nm;obtain rfl:=J.sj;obtain⟨A,c,rfl,s⟩:=Mj u;obtain rfl:=z.lr t;have:=arJ d.neg A c (iy d.m) d.e k w s x.Ab l y (by rw[kE];exact r);rw[kE]at this;exact this.mono λe q h=>TM B w e q m h
def Wk{n e}:canon (jF n).neg (jF n).m ((jF n).e+e)=lV n e:=by
 unfold jF lV;by_cases h:n.natAbs=0
 .rw [h,Gn,Gn];show canon ac 0 _=_;rw[Gn]
 .have x:=I0 h;rw[show canon (decide (n<0)) n.natAbs 0=⟨decide (n<0),n.natAbs/2^ky n.natAbs,0+(ky n.natAbs:Int)⟩by unfold canon;rw[bn h]];show canon (decide (n<0)) (n.natAbs/2^ky n.natAbs) (0+(ky n.natAbs:Int)+e)=_;rw[<-PL _ _ _ (ky n.natAbs),x];congr 1;omega
def IN{n e}(x:n.natAbs<4294967296)(y:-1000<=e)(z:e<=1000):(lV n e).iE:=by
 refine⟨tC _ _ _,?_⟩;unfold lV;by_cases h:n.natAbs=0
 .rw [h,Gn];exact .inl rfl
 .have:=EA (s:=decide (n<0)) (e:=e) h;have b:H n.natAbs<=32:=mo.2 x;have⟨u,v,k,_⟩:=this;have:=oP k;exact .inr ⟨U,U,U,U⟩
def vz{n}(h:n.natAbs<4294967296):(jF n).iE:=IN h aG aG 
def arx(k:Nat)(w:ap)(z:0<k)(n:k<4294967296):
 Calls prog 73 #[.int .i64 (-(k:Int))] w (xx w<|canon aa k 0):=by
 have m:=zU k;have x:(k:Int)%4294967296=k:= U ;rw[x]at m;have u:(k:Int)/4294967296=0:= U ;have i:(-(k:Int))<0:= U ;have R:decide ((-(k:Int))<0)=aa:=bu i;have t:IntKind.u64.wrap (-(k:Int))=18446744073709551616-k:=by rw[IntKind.wrap_u64];omega
 have s:IntKind.u64.wrap (-(18446744073709551616-(k:Int)))=k:=by rw[IntKind.wrap_u64];omega
 have H:=J λ(A:Option Addr) c w (h:Sl w A c [k,0])=>KL aa A c [k,0] 0 w h aK aG aG;have v:val [k,0]=k:= aK ;rw[v]at H;clear v;generalize canon aa k 0=d at *
 generalize q:(-(k:Int))=N at *
 go_enter func73,ntmps73;go_wp2_with fail;refine(H.out _ _ _<|Sl.OP _ _ aK _ _ k 0 rfl rfl n aG).mono ?_;rintro r y ⟨p,g,rfl,B,l⟩;have e:jc (w.alloc<|.cells #[.bool ac,.slice am 0 0,.int .i64 0] 31) y:=(jc.alloc _ _).trans l;have b:=(kf.new w ac am 0 0 0).ext e;have f:=b.c0;have a:=b.c1;have j:=b.c2;have f0:=b.fr 0;have f1:=b.fr 1;have f2:=b.fr 2;go_wp2;exact vX rfl rfl rfl (b.set _ _ _ _ _) rfl (b.wG B _ _ _ _ _) (kf.vK ((jc.alloc _ _).trans e) (bA _) _ _ _ _ _)
def aak(k:Nat)(h:0<k):jF (-(k:Int))=canon aa k 0:=by
 unfold jF lV;rw[bu<|show(-(k:Int))<0 by omega,gJ,ez]
def adw n(h:n.natAbs<4294967296):iB 73 [D n]<|iJ<|jF n:=by
 by_cases x:0<=n
 .obtain ⟨k,rfl⟩:=dZ x;rw[Ft];exact adx k U 
 .obtain ⟨k,rfl⟩:∃ k:Nat,n = -(k:Int):=⟨n.natAbs,U⟩
  rw[aak k U];refine⟨call73,λw B v K y r=>?_⟩;obtain⟨t,v,rfl,s,r⟩:=r.nm;obtain rfl:=r.sj;obtain rfl:=z.lr s;exact(arx k w U U).mono λe u h=>rd B w e u y h
open Classical in
noncomputable def Fp.wF(d:Dy)(k:Int):Dy:=if oL (canon d.neg d.m<|d.e+k)then canon d.neg d.m (d.e+k)else kq
open Classical in
noncomputable def Fp.FY(d:Dy)(k:Int):Int:=if oL (canon d.neg d.m<|d.e+k)then 0 else 9
def ad5 d k:(wF d k).iE:=by
 unfold wF;split
 .rename_i h;exact⟨tC _ _ _,h⟩
 .exact tY
noncomputable def Fp.nM(x:Iv)(k:Int):Iv:=if x.all then L else mc (wF x.lo k) (FY x.lo k) (wF x.hi k) (FY x.hi k)
def Fp.tz(x:Iv):Iv:=if x.all then x else⟨ji<|nX x,nX x,ac⟩
def Fp.sk(n:Int):Dy:=canon ac 1 n
def zz{n}(h:n.natAbs<4294967296):(kp n).iE:=vH<|vz h
def Gg{x}(h:x.iE):(tz x).iE:=by
 unfold tz;cases lP:x.all
 .have e:=h.kN;have m:=Nz e.1 e.2;simp only[bS,bE];refine .inr ⟨rfl,sT m,m,?_⟩;show jQ (ji<|nX x) (nX x)<=0;rw[rN,qM];have⟨a,k,_⟩:=FA h.q;have:=h.q
  grind
 .exact h
def asH{d k}(h:FY d k=0):wF d k=canon d.neg d.m (d.e+k):=by
 unfold FY at h;unfold wF;split at h
 .rename_i x;rw[bt x]
 .cases h
def Ef{d k}(h:FY d k=0:=by omega):(wF d k).q=d.q*P2 k:=by
 rw[asH h,tv,sV d,sK];cases d.neg<;>simp<;>grind
def KX{x}(y:x.iE)k:(nM x k).iE:=by
 unfold nM;split
 .exact np
 .unfold mc;split
  .exact np
  .rename_i h;refine .inr ⟨rfl,ad5 _ _,ad5 _ _,?_⟩;rw[rN,Ef,Ef,zp];exact y.q
def Uf{x r}(h:x.kQ r)k:(nM x k).kQ<|r*P2 k:=by
 unfold nM;split
 .exact .inl rfl
 .rename_i a;unfold mc;split
  .exact .inl rfl
  .have⟨y,z⟩:=h.kN (by simpa using a);refine .inr ⟨?_,?_⟩
   .show (wF x.lo k).q<=_;rw[Ef,zp];exact y
   .show _<=(wF x.hi k).q;rw[Ef,zp];exact z
def ajR(k:Nat)(w:ap)(y:0<k)(n:k<4294967296)(u:Tb w):
 Calls prog 50 #[.int .i64 (-(k:Int))] w (xx w<|canon aa k 0):=by
 have z:(k:Int)/4294967296=0:= U ;have i:(-(k:Int))<0:= U ;have R:decide ((-(k:Int))<0)=aa:=bu i;have s:IntKind.u64.wrap (-(k:Int))=18446744073709551616-k:=by rw[IntKind.wrap_u64];omega
 have q:IntKind.u64.wrap (-(18446744073709551616-(k:Int)))=k:=by rw[IntKind.wrap_u64];omega
 have M:IntKind.u32.wrap (k:Int)=k:=by rw[IntKind.wrap_u32];omega
 have t:(iM [k,0]).length<=256:=by have:=qQ [k,0];unfold nB at this;simp at this;omega
 have H:=J λ(A:Option Addr) c w (h:Sl w A c [k,0]) (T:Tb w)=>Mi aa A c [k,0] 0 w h aK t aG aG T;have v:val [k,0]=k:= aK ;rw[v]at H;clear v t;generalize canon aa k 0=d at *
 generalize p:(-(k:Int))=N at *
 go_enter func50,ntmps50;go_wp2_with fail;refine(H.out _ _ _ (Sl.OP _ _ aK _ _ k 0 rfl rfl n aG)<|u.below<|by first|exact(jc.alloc _ _).trans (jc.alloc _ _)|exact jc.alloc _ _).mono ?_;rintro r x ⟨m,g,rfl,B,l⟩;have e:jc (w.alloc<|.cells #[.bool ac,.slice am 0 0,.int .i64 0] 31) x:=(jc.alloc _ _).trans l;have b:=(kf.new w ac am 0 0 0).ext e;have f:=b.c0;have a:=b.c1;have j:=b.c2;have f0:=b.fr 0;have f1:=b.fr 1;have f2:=b.fr 2;go_wp2;exact vX rfl rfl rfl (b.set _ _ _ _ _) rfl (b.wG B _ _ _ _ _) (kf.vK ((jc.alloc _ _).trans e) (bA _) _ _ _ _ _)
def tA n(h:n.natAbs<4294967296:=by omega):iB 50 [D n]<|iJ<|jF n:=by
 by_cases x:0<=n
 .obtain ⟨k,rfl⟩:=dZ x;exact II k 
 .obtain ⟨k,rfl⟩:∃ k:Nat,n = -(k:Int):=⟨n.natAbs,U⟩
  rw[aak k U];refine⟨call50,λw B v K y r=>?_⟩;obtain⟨t,v,rfl,s,r⟩:=r.nm;obtain rfl:=r.sj;obtain rfl:=z.lr s;exact(ajR k w U U K).mono λe u h=>rd B w e u y h
def asF d k:nD (canon d.neg d.m<|d.e+k)=wF d k:=by unfold nD wF;split<;>simp_all
def asG d k:oj (canon d.neg d.m<|d.e+k)=FY d k:=by unfold oj FY;split<;>simp_all
def nP(a b:Nat):Nat->Nat×Nat
 | 0=>(a,b)
 |k+1=>((nP a b k).2,(nP a b k).1%(nP a b k).2)
def Ql a b:∀ k,nP a b (k+1)=nP b (a%b) k
 | 0=>rfl
 |k+1=>by
  show((nP a b<|k+1).2,(nP a b<|k+1).1%(nP a b<|k+1).2)=_;rw[Ql a b k];rfl
def Qk a b:∀ k,Nat.gcd (nP a b k).1 (nP a b k).2=Nat.gcd a b
 | 0=>rfl
 |k+1=>by
  show Nat.gcd (nP a b k).2 ((nP a b k).1%(nP a b k).2)=_;rw[<-Qk a b k];exact(Nat.gcd_comm _ _).trans<|(Nat.gcd_rec _ _).symm.trans<|Nat.gcd_comm _ _
def XS:∀ (b a:Nat),∃ N,(∀ k,k<N->(nP a b k).2≠0)/\(nP a b N).2=0:=by
 intro b
 induction b using Nat.strongRecOn with
 |ind b i=>
  intro a;by_cases h:b=0
  .exact ⟨0,λk x=>absurd x<|bD k,h⟩
  .have⟨N,y,z⟩:=i (a%b) (bO a<|eB h) b;refine⟨N+1,λk x=>?_,by rw[Ql];exact z⟩;rcases k with _|k
   .exact h
   .rw [Ql];exact y k U 
def qj(n d:Int)(p:Nat):Iv:=if nJ n d then mc (lK (jF n) (jF d) p ac) (o9 (jF n) (jF d) p ac) (lK (jF n) (jF d) p aa) (o9 (jF n) (jF d) p aa)else L
def Sc{d}(h:d≠0):(jF d).m≠0:=by
 intro q;have x:=BD d;rw[sV,q]at x;have e:(d:Rat)=0:=by
  rw[<-x];split<;>simp
 rw[show(0:Rat)=((0:Int):Rat)from rfl,Rat.intCast_inj]at e;exact h e
def Mf{a b}(x:b.m≠0){p}(h:1<=p)(i:p<=4096)up:(lK a b p up).iE:=by
 unfold lK;split
 .exact tY
 .exact nV _ _ _ _ _ _ h i
def Ub n d{p}(x:1<=p)(i:p<=4096):(qj n d p).iE:=by
 unfold qj;split
 .rename_i h;have⟨r,_⟩:=KH h;have k:(jF d).m≠0:=Sc U;unfold mc;split
  .exact np
  .rename_i e;have⟨A,B⟩:=P9 (a:=jF n) k x i;refine .inr ⟨rfl,Mf k x i _,Mf k x i _,?_⟩;rw[rN];exact cg (A.1 U).2 (B.1 U).2
 .exact np
end Go.Proofs.YthalchiobglflaaGreatDoor
