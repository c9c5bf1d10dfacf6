/- Lemmas that the last file uses. -/
import Derived.Test.YtkjkcjhacddojaaGreatDoorM03
import Derived.DeepKeys
set_option linter.unusedSimpArgs false
set_option linter.unusedVariables false
set_option linter.defProp false
set_option maxHeartbeats 4000000
open Go.Proofs.Tryz
namespace Go.Proofs.YtkjkcjhacddojaaGreatDoor.Fp
def il(d:Dy)(p:Nat)(up:Bool):Nat->Dy×Int
 | 0=>(ji d p up,jl d p up)
 |k+1=>if(il d p up k).2≠0 then il d p up k else(ji (kG (il d p up k).1 d) p up,jl (kG (il d p up k).1 d) p up)
def kD(d:Dy)(n p:Nat)(up:Bool):Dy×Int:=if d.jc<0 then(iB (il (iB d) p (!up) (n-1)).1,(il (iB d) p (!up) (n-1)).2)else il d p up (n-1)
def pz(x:Iv)(n:Nat):Iv:=if n%2=0 then ib x else x
def lp(x:Iv)(n p:Nat):Iv:=
 if x.all then gL else if n=0 then gZ ⟨false,1,0⟩
 else mj (kD (pz x n).lo n p false).1 (kD (pz x n).lo n p false).2 (kD (pz x n).hi n p true).1 (kD (pz x n).hi n p true).2
def qs(r:Rat):Nat->Rat
 | 0=>1
 |n+1=>qs r n*r
def Hr{r:Rat}(h:0<=r):∀ n,0<=qs r n
 | 0=>by show(0:Rat)<=1;decide
 |n+1=>dU (Hr h n) h
def Es{a b:Rat}(h0:0<=a)(h:a<=b):∀ n,qs a n<=qs b n
 | 0=>dg
 |n+1=>by
  have ih:=Es h0 h n;have m1:=fT ih h0;have m2:=Rat.mul_le_mul_of_nonneg_left h (Hr (dV h0 h) n);exact dV m1 m2
def Cm(r:Rat):∀ n,qs (-r) n=if n%2=0 then qs r n else -qs r n
 | 0=>rfl
 |n+1=>by
  have ih:=Cm r n;simp only[qs,ih];have:n%2=0\/n%2=1:= aD ;rcases this with h|h
  .have h':(n+1)%2=1:= aD ;rw[h,h'];simp;grind
  .have h':(n+1)%2=0:= aD ;rw[h,h'];simp;grind
def Vo{a b:Rat}{n:Nat}(hn:n%2=1)(h:a<=b):qs a n<=qs b n:=by
 by_cases h0:0<=a
 .exact Es h0 h n
 .have ea:=Cm (-a) n;rw[fw,hn]at ea;simp only[ajL,bF]at ea;by_cases hb:0<=b
  .have h1:=Hr (show 0 <= -a by grind) n;have h2:=Hr hb n
   grind
  .have eb:=Cm (-b) n;rw[fw,hn]at eb;simp only[ajL,bF]at eb;have:=Es (show 0 <= -b by grind) (show -b <= -a by grind) n
   grind
def LL{d:Dy}(hd:d.lA)(h0:0<=d.q){p:Nat}(hp:1<=p)(gS:p<=4096):∀ k,(il d p false k).2=0->0<=(il d p false k).1.q/\(il d p false k).1.q<=qs d.q (k+1)
 | 0,he=>by
  have A:=Vg hd hp gS;refine⟨(A.2 0 (.inl (xT p)) h0).2,?_⟩;have:=(A.1 he).2;simp only[qs,ajJ];exact this
 |k+1,he=>by
  by_cases hk:(il d p false k).2≠0
  .exfalso;simp only[il,bj hk]at he;exact hk he
  .have qe:(il d p false k).2=0:= aD ;obtain⟨i1,i2⟩:=LL hd h0 hp gS k qe;have A:=Vg (NM (il d p false k).1 d) hp gS;rw[Tu]at A;simp only[il,bh hk]at he ⊢;refine⟨(A.2 0 (.inl (xT p)) (dU i1 h0)).2,?_⟩;have h1:=(A.1 he).2;have h2:=fT i2 h0;exact dV h1 h2
def LM{d:Dy}(hd:d.lA)(h0:0<=d.q){p:Nat}(hp:1<=p)(gS:p<=4096):∀ k,(il d p true k).2=0->qs d.q (k+1)<=(il d p true k).1.q
 | 0,he=>by
  have A:=Vi hd hp gS;have:=(A.1 he).2;simp only[qs,ajJ];exact this
 |k+1,he=>by
  by_cases hk:(il d p true k).2≠0
  .exfalso;simp only[il,bj hk]at he;exact hk he
  .have qe:(il d p true k).2=0:= aD ;have i2:=LM hd h0 hp gS k qe;have A:=Vi (NM (il d p true k).1 d) hp gS;rw[Tu]at A;simp only[il,bh hk]at he ⊢;have h1:=(A.1 he).2;have h2:=fT i2 h0;exact dV h2 h1
def ZC{d:Dy}(hd:d.lA){n p:Nat}(hn:1<=n)(hs:0<=d.q\/n%2=1)(hp:1<=p)(gS:p<=4096)(he:(kD d n p false).2=0):(kD d n p false).1.q<=qs d.q n:=by
 unfold kD at he ⊢;by_cases h:d.jc<0
 .rw [bj h]at he ⊢;have hq:=(wB d).2.1 h;have ym:=hs.resolve_left aO;have:=LM (Ah hd) (by rw[sF];grind) hp gS (n-1) he;rw[(aD:n-1+1=n),sF,Cm,ym]at this;simp only[ajL,bF]at this;show(iB _).q<=_;rw[sF];simp only[eC]
  grind
 .rw [bh h]at he ⊢;have h0:0<=d.q:=by
   apply Rat.not_lt.1;intro iE;exact h ((wB d).2.2 iE)
  have:=(LL hd h0 hp gS (n-1) he).2;rwa[(aD:n-1+1=n)]at this
def ZD{d:Dy}(hd:d.lA){n p:Nat}(hn:1<=n)(hs:0<=d.q\/n%2=1)(hp:1<=p)(gS:p<=4096)(he:(kD d n p true).2=0):qs d.q n<=(kD d n p true).1.q:=by
 unfold kD at he ⊢;by_cases h:d.jc<0
 .rw [bj h]at he ⊢;have hq:=(wB d).2.1 h;have ym:=hs.resolve_left aO;have:=(LL (Ah hd) (by rw[sF];grind) hp gS (n-1) he).2;rw[(aD:n-1+1=n),sF,Cm,ym]at this;simp only[ajL,bF]at this;show _<=(iB _).q;rw[sF];simp only[e8]
  grind
 .rw [bh h]at he ⊢;have h0:0<=d.q:=by
   apply Rat.not_lt.1;intro iE;exact h ((wB d).2.2 iE)
  have:=LM hd h0 hp gS (n-1) he;rwa[(aD:n-1+1=n)]at this
def aeJ{x:Iv}(hx:x.gQ){n p:Nat}(hp:1<=p)(gS:p<=4096){r:Rat}(h:x.sW r):(lp x n p).sW (qs r n):=by
 unfold lp;cases xa:x.all
 .simp only[b9,bF];by_cases hn:n=0
  .rw [bj hn];subst hn;have e:(⟨false,1,0⟩:Dy).q=1:= aP ;refine .inr ⟨?_,?_⟩
   .show (⟨false,1,0⟩:Dy).q<=1;rw[e];exact dg
   .show 1<=(⟨false,1,0⟩:Dy).q;rw[e];exact dg
  .rw [bh hn];obtain⟨s,hs,uq,hsn⟩:∃ s,(pz x n).sW s/\(n%2=0->0<=(pz x n).lo.q/\0<=s)/\qs r n=qs s n:=by
    unfold pz;by_cases pq:n%2=0
    .rw [bj pq];have hl:0<=(ib x).lo.q:=by
      unfold ib;rw[xa];show 0<=(mW x).q;unfold mW;split
      .rw [sG];exact dg
      .obtain ⟨_,_,m⟩:=Ts (lg x.lo) (lg x.hi);rcases m with m|m<;>rw[m]
       .exact (BV x.lo).1
       .exact (BV x.hi).1
     by_cases hr:0<=r
     .exact ⟨r,MV hx h (.inl ⟨rfl,hr⟩),λ_=>⟨hl,hr⟩,rfl⟩
     .refine ⟨-r,MV hx h (.inr ⟨rfl,aO⟩),λ_=>⟨hl,aO⟩,?_⟩;rw[Cm,bj pq]
    .rw [bh pq];exact⟨r,h,λq=>absurd q pq,rfl⟩
   have hyv:(pz x n).gQ:=by unfold pz;split;exact qQ hx;exact hx
   have ya:(pz x n).all=false:=by
    unfold pz;split
    .unfold ib;rw[xa];rfl
    .exact xa
   rw[hsn];generalize pz x n=y at *
   obtain⟨s1,s2⟩:=hs.kn ya;obtain⟨c1,c2⟩:=hyv.X4;unfold mj;split
   .exact .inl rfl
   .rename_i he;have ym:¬n%2=0->n%2=1:=λq=> aD 
    refine .inr ⟨?_,?_⟩
    .refine dV (ZC c1 aD ?_ hp gS aD) ?_
     .by_cases pq:n%2=0
      .exact .inl (uq pq).1
      .exact .inr (ym pq)
     .by_cases pq:n%2=0
      .exact Es (uq pq).1 s1 n
      .exact Vo (ym pq) s1
    .refine dV ?_ (ZD c2 aD ?_ hp gS aD)
     .by_cases pq:n%2=0
      .exact Es (uq pq).2 s2 n
      .exact Vo (ym pq) s2
     .by_cases pq:n%2=0
      .exact .inl (dV (uq pq).2 s2)
      .exact .inr (ym pq)
 .rw [bj rfl];exact .inl rfl
end Go.Proofs.YtkjkcjhacddojaaGreatDoor.Fp
namespace Go.Proofs.YtkjkcjhacddojaaGreatDoor
open Go.RowKit Fp Pu
structure kq where
 kind:Nat
 a:Nat
 b:Nat
 n:Nat
 cn:Int
 cd:Int
structure lS where
 gP:Nat
 gI:List kq
 gN:List Nat
structure lX where
 tape:lS
 ij:Nat
 params:List Iv
def ig:kq:=⟨0,0,0,0,0,0⟩
def BT(o:kq):List E:=[iP (o.kind:Int),iP (o.a:Int),iP (o.b:Int),iP (o.n:Int),iP o.cn,iP o.cd]
def pN(o:kq):E:=.agg (BT o)
def mM(l:List kq):E:=.sl true l.length 6 λi j=>(BT (l.getD i ig)).getD j .any
def mL(l:List Nat):E:=.sl true l.length 1 λi _=>iP (l.getD i 0:Int)
def aix(t:lS):List E:=[iP (t.gP:Int),mM t.gI,mL t.gN]
def tE(t:lS):E:=.agg (aix t)
def aia(s:lX):List E:=[iP (s.tape.gP:Int),mM s.tape.gI,mL s.tape.gN,iP (s.ij:Int),ic s.params]
def lq(s:lX):E:=.agg (aia s)
def lv(n d:Int):Bool:=decide (1<=d)&&(decide (d<=1073741824)&&(decide (-1073741824<=n)&&(decide (n<=1073741824)&&decide (Nat.gcd n.natAbs d.natAbs=1))))
def Cb{n d:Int}(h:lv n d=true):1<=d/\d<=1073741824 /\ -1073741824<=n/\n<=1073741824:=by
 unfold lv at h;simp only[bQ,cF]at h;exact⟨h.1,h.2.1,h.2.2.1,h.2.2.2.1⟩
structure mP(o:kq)(m:Nat):Prop where
 k3:o.kind=1\/3<=o.kind
 BI:o.kind<=13
 a:if o.kind=1 then o.a=0 else o.a<m
 b:if 3<=o.kind/\o.kind<=6 then o.b<m else o.b=0
 n:if o.kind=8 then o.n<=16 else o.n=0
 c:if o.kind=1 then lv o.cn o.cd=true else o.cn=0/\o.cd=0
structure uQ(t:lS):Prop where
 gP:t.gP<=8
 gI:t.gI.length<=200
 gN:t.gN.length<=200
 op:∀ i,i<t.gI.length->mP (t.gI.getD i ig) (t.gP+i)
 out:∀ i,i<t.gN.length->t.gN.getD i 0<t.gP+t.gI.length
def CB(l:List Iv):Prop:=∀ i,i<l.length->(l.getD i gL).gQ/\(l.getD i gL).all=false
structure og(s:lX):Prop where
 tape:uQ s.tape
 s1:1<=s.ij
 s4:s.ij<=4
 gN:s.tape.gN.length=s.ij
 gP:s.tape.gP=s.ij+s.params.length
 p4:s.params.length<=4
 params:CB s.params
structure oM(n:Nat)(b:List Iv):Prop where
 len:b.length=n
 ok:CB b
def mI(l:List Iv):Bool:=(List.range l.length).any λi=>(l.getD i gL).all
def Vj(d:Dy){p:Nat}(hp:1<=p)(gS:p<=4096)(up:Bool):(ji d p up).gQ:=lY _ _ _ _ _ _ hp gS
def tv(d:Dy){p:Nat}(hp:1<=p)(gS:p<=4096)(up:Bool):∀ k,(il d p up k).1.gQ
 | 0=>Vj _ hp gS _
 |k+1=>by
  unfold il;split
  .exact tv d hp gS up k
  .exact Vj _ hp gS _
def O7(d:Dy)(n:Nat){p:Nat}(hp:1<=p)(gS:p<=4096)(up:Bool):(kD d n p up).1.gQ:=by
 unfold kD;split
 .exact pL (tv _ hp gS _ _)
 .exact tv _ hp gS _ _
def Lx:canon false 1 0=⟨false,1,0⟩:=by
 have h1:(canon false 1 0).neg=false:= aP ;have h2:(canon false 1 0).m=1:= aP ;have h3:(canon false 1 0).e=0:= aP ;generalize canon false 1 0=d at *
 cases d;simp_all
def S8:(⟨false,1,0⟩:Dy).gQ:=by
 have h2:pe (canon false 1 0):= aP ;rw[<-Lx];exact⟨rj _ _ _,h2⟩
def LN{x:Iv}(hx:x.gQ)(n:Nat){p:Nat}(hp:1<=p)(gS:p<=4096):(lp x n p).gQ:=by
 have hh:=aeJ hx (n:=n) hp gS hx.abt;revert hh;unfold lp;split
 .intro _;exact nj
 .split
  .intro _;exact pO S8
  .unfold mj;split
   .intro _;exact nj
   .intro hh;obtain⟨h1,h2⟩:=hh.kn rfl;exact .inr ⟨rfl,O7 _ _ hp gS _,O7 _ _ hp gS _,(Aq _ _).2 (dV h1 h2)⟩
def oO(l:List Iv):Prop:=∀ i,(l.getD i gL).gQ
def oO.push{l:List Iv}(h:oO l){y:Iv}(hy:y.gQ):oO (l++[y]):=λi=>by
 rw[bn,fE];split
 .have:=h i;rwa[bn]at this
 .rcases i-l.length with _|j
  .exact hy
  .exact nj
def CB.WB{l:List Iv}(h:CB l):oO l:=λi=>by
 by_cases hi:i<l.length
 .exact (h i hi).1
 .rw [bn,bR aD];exact nj
def oO.append{l r:List Iv}(h:oO l)(k:oO r):oO (l++r):=λi=>by
 rw[bn,fE];split
 .have:=h i;rwa[bn]at this
 .have:=k (i-l.length);rwa[bn]at this
def Nl(d:Dy)(n p:Nat)(x:Nat):PS:=⟨41,true,[(14,.e (iP ((x+1:Nat):Int))),(13,.e (iP ((il d p false x).2))),(12,.box 12 0),(10,.box 10 0),(5,.box 5 0),(1,.e (iP n)),(2,.e (iP p)),(4,.e (.fn 189 []))],[(12,.cells 39 (iy ((il d p false x).1))),(10,.cells 39 aq),(5,.cells 39 (iy d))]⟩
def Nn(d:Dy)(n N p:Nat)(x:Nat):PS:=⟨41,true,[(14,.e (iP ((x+1:Nat):Int))),(13,.e (iP ((il d p false x).2))),(12,.box 12 0),(10,.box 10 0),(5,.box 5 0),(1,.e (iP n)),(2,.e (iP p)),(4,.e (.fn 189 []))],[(12,.cells 39 (iy ((il d p false x).1))),(10,.cells 39 aq),(5,.cells 39 (iy d))]⟩
def No(d:Dy)(n p:Nat)(x:Nat):PS:=⟨41,true,[(14,.e (iP ((x+1:Nat):Int))),(13,.e (iP ((il d p true x).2))),(12,.box 12 0),(10,.box 10 0),(5,.box 5 0),(1,.e (iP n)),(2,.e (iP p)),(4,.e (.fn 190 []))],[(12,.cells 39 (iy ((il d p true x).1))),(10,.cells 39 aq),(5,.cells 39 (iy d))]⟩
def Np(d:Dy)(n N p:Nat)(x:Nat):PS:=⟨41,true,[(14,.e (iP ((x+1:Nat):Int))),(13,.e (iP ((il d p true x).2))),(12,.box 12 0),(10,.box 10 0),(5,.box 5 0),(1,.e (iP n)),(2,.e (iP p)),(4,.e (.fn 190 []))],[(12,.cells 39 (iy ((il d p true x).1))),(10,.cells 39 aq),(5,.cells 39 (iy d))]⟩
def Nj(n:Nat)(h:n<4294967296):gJ 180 [iP n] (gM (jI (n:Int))):=by
 have ok2:iw [n%4294967296,n/4294967296%4294967296]:=iw.cons (bA _ aF) (iw.cons (bA _ aF) iw.nil);exact aj call180 func180 (aa [.o 5 (.int (oH _ aD):ai (.v (.int .u64 (IntKind.u64.wrap (n:Int)))) (.v (.int .u64 (n:Int)))),tF 7 ((n:Int)<0) aD,tF 11 ((n:Int)<0) aD,.o 13 (.int (q9 _):ai (.v (.int .u32 (IntKind.u32.wrap (n:Int)))) (.v (.int .u32 ((n%4294967296:Nat):Int)))),.a (aD:0<=(32:Int)/\(32:Int)<=((64:Nat):Int)),.o 15 (.int (xJ _):ai (.v (.int .u64 ((n:Int)/2^32))) (.v (.int .u64 ((n/4294967296:Nat):Int)))),.o 16 (.int (q9 _):ai (.v (.int .u32 (IntKind.u32.wrap ((n/4294967296:Nat):Int)))) (.v (.int .u32 (((n/4294967296)%4294967296:Nat):Int)))),.o 17 (.e (Wo _ _):ai (.sl false 2 1 λi_ j_=>[.v (.int .u32 ((n%4294967296:Nat):Int)),.v (.int .u32 (((n/4294967296)%4294967296:Nat):Int))].getD (i_*1+j_) (.v (.bool false))) (gO [n%4294967296,(n/4294967296)%4294967296])),af [bP false,gO [n%4294967296,(n/4294967296)%4294967296],iP 0] (OO _ _ _ ok2 aJ aF aF)]<|rQ (gM (canon false (val [n%4294967296,(n/4294967296)%4294967296]) 0)) (gM (jI (n:Int))) (by rw[WA,(aD:n%4294967296+4294967296*(n/4294967296%4294967296)=n),tm])) 
def acd:jI 1=⟨false,1,0⟩:=by rw[show(1:Int)=((1:Nat):Int)from rfl,tm];exact Lx
def Xp:gJ 180 [iP 1] (gM ⟨false,1,0⟩):=by
 have:=Nj 1 aF;rwa[show((1:Nat):Int)=1 from rfl,acd]at this
def Nq(d:Dy)(p:Nat)(hd:d.gQ)(ie:8<=p)(gS:p<=512):gJ 383 [gM d,iP p] (.hH [gM (ji d p false),iP (jl d p false)]):=
 aj call383 func383 (ae [.c (Hd d p false aE aD aD)]) 
def Nr(d:Dy)(p:Nat)(hd:d.gQ)(ie:8<=p)(gS:p<=512):gJ 382 [gM d,iP p] (.hH [gM (ji d p true),iP (jl d p true)]):=
 aj call382 func382 (ae [.c (Hd d p true aE aD aD)]) 
def Ec(d:Dy)(p:Nat)(up:Bool)(N:Nat)(h:(il d p up N).2≠0):∀ k,il d p up (N+k)=il d p up N
 | 0=>rfl
 |k+1=>by
  have ih:=Ec d p up N h k;show(if(il d p up (N+k)).2≠0 then il d p up (N+k)else _)=_;rw[ih,bj h]
def rG{d:Dy}{p:Nat}{up:Bool}{k:Nat}(h:(il d p up k).2=0):il d p up (k+1)=(ji (mK (il d p up k).1 d) p up,jl (mK (il d p up k).1 d) p up):=by
 show(if(il d p up k).2≠0 then _ else _)=_;rw[bh (akc h)];rfl
def Xq(d:Dy)(n p:Nat)(hd:d.gQ)(hn:1<=n)(jO:n<=16)(ie:8<=p)(gS:p<=512)(iJ:∀ x,x<n-1->(il d p false x).2=0):gJ 381 [gM d,iP n,iP p,.fn 383 [],.fn 189 []] (.hH [gM (il d p false (n-1)).1,iP (il d p false (n-1)).2]):=
 aj call381 func381 (ae [.c (Nq d p aE aD aD),.s (Sp.iG (Nl d n p) 0 (n-1) aD (λx hx jf=>by
    have lP:=iJ x aD;have hv:=tv d (aD:1<=p) (aD:p<=4096) false x;exact gX (aa [tT 24 (((x+1:Nat):Int)<n) aD,ag 27 (((il d p false x).2)==0) (by rw[lP];rfl),.c (L4 ((il d p false x).1) d p aE aE aD aD),
     gW (((x+1:Nat):Int)+1) aD]<|.e (ae [.o 13 (an (jl (mK ((il d p false x).1) d) p false) ((il d p false (x+1)).2) (by rw[rG lP])),.b 12 (.iD (by rw[rG lP]):Bx.le (.cells 39 (iy (ji (mK ((il d p false x).1) d) p false))) (.cells 39 (iy ((il d p false (x+1)).1))))])) aG)
  (λhx=>by
    exact gX (ae [tF 24 ((((n-1)+1:Nat):Int)<n) aD]) aG) aK:iF 3 f381 (Nl d n p 0) (.exit 0) ⟨41,true,[(13,.e (iP ((il d p false (n-1)).2))),(12,.box 12 0),(10,.box 10 0)],[(12,.cells 39 (iy ((il d p false (n-1)).1))),(10,.cells 39 aq)]⟩) (ae [.o 14 (an 1 ((0+1:Nat):Int) rfl),.o 13 (an (jl d p false) ((il d p false 0).2) rfl),.b 12 (.iD rfl:Bx.le (.cells 39 (iy (ji d p false))) (.cells 39 (iy ((il d p false 0).1))))])]) 
def Xr(d:Dy)(n N p:Nat)(hd:d.gQ)(hn:1<=n)(jO:n<=16)(ie:8<=p)(gS:p<=512)(mA:N<n-1)(iJ:∀ x,x<N->(il d p false x).2=0)(hN:(il d p false N).2≠0):gJ 381 [gM d,iP n,iP p,.fn 383 [],.fn 189 []] (.hH [gM (il d p false N).1,iP (il d p false N).2]):=
 aj call381 func381 (ae [.c (Nq d p aE aD aD),.s (Sp.iG (Nn d n N p) 0 N aD (λx hx jf=>by
    have lP:=iJ x aD;have hv:=tv d (aD:1<=p) (aD:p<=4096) false x;exact gX (aa [tT 24 (((x+1:Nat):Int)<n) aD,ag 27 (((il d p false x).2)==0) (by rw[lP];rfl),.c (L4 ((il d p false x).1) d p aE aE aD aD),
     gW (((x+1:Nat):Int)+1) aD]<|.e (ae [.o 13 (an (jl (mK ((il d p false x).1) d) p false) ((il d p false (x+1)).2) (by rw[rG lP])),.b 12 (.iD (by rw[rG lP]):Bx.le (.cells 39 (iy (ji (mK ((il d p false x).1) d) p false))) (.cells 39 (iy ((il d p false (x+1)).1))))])) aG)
  (λhx=>by
    exact gX (ae [tT 24 (((N+1:Nat):Int)<n) aD,ah 27 (((il d p false N).2)==0) (by simpa using hN)]) aG) aK:iF 3 f381 (Nn d n N p 0) (.exit 0) ⟨41,true,[(13,.e (iP ((il d p false N).2))),(12,.box 12 0),(10,.box 10 0)],[(12,.cells 39 (iy ((il d p false N).1))),(10,.cells 39 aq)]⟩) (ae [.o 14 (an 1 ((0+1:Nat):Int) rfl),.o 13 (an (jl d p false) ((il d p false 0).2) rfl),.b 12 (.iD rfl:Bx.le (.cells 39 (iy (ji d p false))) (.cells 39 (iy ((il d p false 0).1))))])]) 
def Xs(d:Dy)(n p:Nat)(hd:d.gQ)(hn:1<=n)(jO:n<=16)(ie:8<=p)(gS:p<=512):gJ 381 [gM d,iP n,iP p,.fn 383 [],.fn 189 []] (.hH [gM (il d p false (n-1)).1,iP (il d p false (n-1)).2]):=by
 by_cases h:∃ x,x<n-1/\decide ((il d p false x).2≠0)=true
 .obtain ⟨N,h1,h2,h3⟩:=pX h;have hN:(il d p false N).2≠0:=cK h2;have:=Xr d n N p hd hn jO ie gS h1 (λx hx=>by simpa using h3 x hx) hN;have e:=Ec d p false N hN (n-1-N);rw[(aD:N+(n-1-N)=n-1)]at e;rw[e];exact this
 .exact Xq d n p hd hn jO ie gS λx hx=>bY λq=>h ⟨x,hx,bk q⟩
def Xt(d:Dy)(n p:Nat)(hd:d.gQ)(hn:1<=n)(jO:n<=16)(ie:8<=p)(gS:p<=512)(iJ:∀ x,x<n-1->(il d p true x).2=0):gJ 381 [gM d,iP n,iP p,.fn 382 [],.fn 190 []] (.hH [gM (il d p true (n-1)).1,iP (il d p true (n-1)).2]):=
 aj call381 func381 (ae [.c (Nr d p aE aD aD),.s (Sp.iG (No d n p) 0 (n-1) aD (λx hx jf=>by
    have lP:=iJ x aD;have hv:=tv d (aD:1<=p) (aD:p<=4096) true x;exact gX (aa [tT 24 (((x+1:Nat):Int)<n) aD,ag 27 (((il d p true x).2)==0) (by rw[lP];rfl),.c (L5 ((il d p true x).1) d p aE aE aD aD),
     gW (((x+1:Nat):Int)+1) aD]<|.e (ae [.o 13 (an (jl (mK ((il d p true x).1) d) p true) ((il d p true (x+1)).2) (by rw[rG lP])),.b 12 (.iD (by rw[rG lP]):Bx.le (.cells 39 (iy (ji (mK ((il d p true x).1) d) p true))) (.cells 39 (iy ((il d p true (x+1)).1))))])) aG)
  (λhx=>by
    exact gX (ae [tF 24 ((((n-1)+1:Nat):Int)<n) aD]) aG) aK:iF 3 f381 (No d n p 0) (.exit 0) ⟨41,true,[(13,.e (iP ((il d p true (n-1)).2))),(12,.box 12 0),(10,.box 10 0)],[(12,.cells 39 (iy ((il d p true (n-1)).1))),(10,.cells 39 aq)]⟩) (ae [.o 14 (an 1 ((0+1:Nat):Int) rfl),.o 13 (an (jl d p true) ((il d p true 0).2) rfl),.b 12 (.iD rfl:Bx.le (.cells 39 (iy (ji d p true))) (.cells 39 (iy ((il d p true 0).1))))])]) 
def Xu(d:Dy)(n N p:Nat)(hd:d.gQ)(hn:1<=n)(jO:n<=16)(ie:8<=p)(gS:p<=512)(mA:N<n-1)(iJ:∀ x,x<N->(il d p true x).2=0)(hN:(il d p true N).2≠0):gJ 381 [gM d,iP n,iP p,.fn 382 [],.fn 190 []] (.hH [gM (il d p true N).1,iP (il d p true N).2]):=
 aj call381 func381 (ae [.c (Nr d p aE aD aD),.s (Sp.iG (Np d n N p) 0 N aD (λx hx jf=>by
    have lP:=iJ x aD;have hv:=tv d (aD:1<=p) (aD:p<=4096) true x;exact gX (aa [tT 24 (((x+1:Nat):Int)<n) aD,ag 27 (((il d p true x).2)==0) (by rw[lP];rfl),.c (L5 ((il d p true x).1) d p aE aE aD aD),
     gW (((x+1:Nat):Int)+1) aD]<|.e (ae [.o 13 (an (jl (mK ((il d p true x).1) d) p true) ((il d p true (x+1)).2) (by rw[rG lP])),.b 12 (.iD (by rw[rG lP]):Bx.le (.cells 39 (iy (ji (mK ((il d p true x).1) d) p true))) (.cells 39 (iy ((il d p true (x+1)).1))))])) aG)
  (λhx=>by
    exact gX (ae [tT 24 (((N+1:Nat):Int)<n) aD,ah 27 (((il d p true N).2)==0) (by simpa using hN)]) aG) aK:iF 3 f381 (Np d n N p 0) (.exit 0) ⟨41,true,[(13,.e (iP ((il d p true N).2))),(12,.box 12 0),(10,.box 10 0)],[(12,.cells 39 (iy ((il d p true N).1))),(10,.cells 39 aq)]⟩) (ae [.o 14 (an 1 ((0+1:Nat):Int) rfl),.o 13 (an (jl d p true) ((il d p true 0).2) rfl),.b 12 (.iD rfl:Bx.le (.cells 39 (iy (ji d p true))) (.cells 39 (iy ((il d p true 0).1))))])]) 
def Xv(d:Dy)(n p:Nat)(hd:d.gQ)(hn:1<=n)(jO:n<=16)(ie:8<=p)(gS:p<=512):gJ 381 [gM d,iP n,iP p,.fn 382 [],.fn 190 []] (.hH [gM (il d p true (n-1)).1,iP (il d p true (n-1)).2]):=by
 by_cases h:∃ x,x<n-1/\decide ((il d p true x).2≠0)=true
 .obtain ⟨N,h1,h2,h3⟩:=pX h;have hN:(il d p true N).2≠0:=cK h2;have:=Xu d n N p hd hn jO ie gS h1 (λx hx=>by simpa using h3 x hx) hN;have e:=Ec d p true N hN (n-1-N);rw[(aD:N+(n-1-N)=n-1)]at e;rw[e];exact this
 .exact Xt d n p hd hn jO ie gS λx hx=>bY λq=>h ⟨x,hx,bk q⟩
def Nf(d:Dy)(n p:Nat)(hd:d.gQ)(h0:¬d.jc<0)(hn:1<=n)(jO:n<=16)(ie:8<=p)(gS:p<=512):gJ 363 [gM d,iP n,iP p,bP false] (.hH [gM (kD d n p false).1,iP (kD d n p false).2]):=
 aj call363 func363 (aa [af [gM d] (tZ _ aE),tB 14 (bl h0),.c (Xs d n p aE aD aD aD aD)]<|rQ (.hH [gM ((il d p false (n-1)).1),iP ((il d p false (n-1)).2)]) (.hH [gM (kD d n p false).1,iP (kD d n p false).2]) (by unfold kD;rw[bh h0])) 
def Ng(d:Dy)(n p:Nat)(hd:d.gQ)(h0:¬d.jc<0)(hn:1<=n)(jO:n<=16)(ie:8<=p)(gS:p<=512):gJ 363 [gM d,iP n,iP p,bP true] (.hH [gM (kD d n p true).1,iP (kD d n p true).2]):=
 aj call363 func363 (aa [af [gM d] (tZ _ aE),tB 14 (bl h0),.c (Xv d n p aE aD aD aD aD)]<|rQ (.hH [gM ((il d p true (n-1)).1),iP ((il d p true (n-1)).2)]) (.hH [gM (kD d n p true).1,iP (kD d n p true).2]) (by unfold kD;rw[bh h0])) 
def VJ{d:Dy}(h:d.jc<0):¬(iB d).jc<0:=by
 rw[(wB _).2,sF];have:=(wB d).2.1 h
 grind
def Xl(d:Dy)(n p:Nat)(hd:d.gQ)(h0:¬d.jc<0)(hn:1<=n)(jO:n<=16)(ie:8<=p)(gS:p<=512):gJ 363 [gM d,iP (n:Int),iP (p:Int),bP false] (.hH [gM (il d p false (n-1)).1,iP (il d p false (n-1)).2]):=by
 have:=Nf d n p hd h0 hn jO ie gS;unfold kD at this;rwa[bh h0]at this
def Xm(d:Dy)(n p:Nat)(hd:d.gQ)(h0:¬d.jc<0)(hn:1<=n)(jO:n<=16)(ie:8<=p)(gS:p<=512):gJ 363 [gM d,iP (n:Int),iP (p:Int),bP true] (.hH [gM (il d p true (n-1)).1,iP (il d p true (n-1)).2]):=by
 have:=Ng d n p hd h0 hn jO ie gS;unfold kD at this;rwa[bh h0]at this
def Xj(d:Dy)(n p:Nat)(hd:d.gQ)(h0:d.jc<0)(hn:1<=n)(jO:n<=16)(ie:8<=p)(gS:p<=512):gJ 363 [gM d,iP n,iP p,bP false] (.hH [gM (kD d n p false).1,iP (kD d n p false).2]):=by
 have Dc:=pL hd;have h1:=VJ h0;have hv:=tv (iB d) (aD:1<=p) (aD:p<=4096) true (n-1);exact aj call363 func363 (aa [af [gM d] (tZ _ aE),tB 14 (bk h0),af [gM d] (yb _ aE),af [gM (iB d),iP n,iP p,bP true] (Xm _ _ _ Dc h1 hn jO ie gS),af [gM ((il (iB d) p true (n-1)).1)] (yb _ aE)]<|rQ (.hH [gM (iB ((il (iB d) p true (n-1)).1)),iP ((il (iB d) p true (n-1)).2)]) (.hH [gM (kD d n p false).1,iP (kD d n p false).2]) (by unfold kD;rw[bj h0];rfl)) 
def Nh(d:Dy)(n p:Nat)(hd:d.gQ)(hn:1<=n)(jO:n<=16)(ie:8<=p)(gS:p<=512):gJ 363 [gM d,iP (n:Int),iP (p:Int),bP false] (.hH [gM (kD d n p false).1,iP (kD d n p false).2]):=by
 by_cases h0:d.jc<0
 .exact Xj d n p hd h0 hn jO ie gS
 .exact Nf d n p hd h0 hn jO ie gS
def Xk(d:Dy)(n p:Nat)(hd:d.gQ)(h0:d.jc<0)(hn:1<=n)(jO:n<=16)(ie:8<=p)(gS:p<=512):gJ 363 [gM d,iP n,iP p,bP true] (.hH [gM (kD d n p true).1,iP (kD d n p true).2]):=by
 have Dc:=pL hd;have h1:=VJ h0;have hv:=tv (iB d) (aD:1<=p) (aD:p<=4096) false (n-1);exact aj call363 func363 (aa [af [gM d] (tZ _ aE),tB 14 (bk h0),af [gM d] (yb _ aE),af [gM (iB d),iP n,iP p,bP false] (Xl _ _ _ Dc h1 hn jO ie gS),af [gM ((il (iB d) p false (n-1)).1)] (yb _ aE)]<|rQ (.hH [gM (iB ((il (iB d) p false (n-1)).1)),iP ((il (iB d) p false (n-1)).2)]) (.hH [gM (kD d n p true).1,iP (kD d n p true).2]) (by unfold kD;rw[bj h0];rfl)) 
def Ni(d:Dy)(n p:Nat)(hd:d.gQ)(hn:1<=n)(jO:n<=16)(ie:8<=p)(gS:p<=512):gJ 363 [gM d,iP (n:Int),iP (p:Int),bP true] (.hH [gM (kD d n p true).1,iP (kD d n p true).2]):=by
 by_cases h0:d.jc<0
 .exact Xk d n p hd h0 hn jO ie gS
 .exact Ng d n p hd h0 hn jO ie gS
def Xw(x:Iv)(n p:Nat)(hx:x.gQ)(ha:x.all=true)(hn:n<=16)(ie:8<=p)(gS:p<=512):gJ 326 [gR x,iP n,iP p] (gR (lp x n p)):=
 aj call326 func326 (aa [.o 12 (.e (lD _):ai (.sl true 1 7 λi_ j_=>(iA x).getD (i_*7+j_) (.v (.bool false))) (ic [x])),af [ic [x]] (rB _ aE),ah 13 (!x.all) (by rw[ha];rfl),.c q7]<|rQ (gR gL) (gR (lp x n p)) (by unfold lp;rw[bj ha])) 
def Xz(x:Iv)(n p:Nat)(hx:x.gQ)(ha:x.all=false)(h0:n=0)(ie:8<=p)(gS:p<=512):gJ 326 [gR x,iP n,iP p] (gR (lp x n p)):=by
 have v1:=S8;exact aj call326 func326 (aa [.o 12 (.e (lD _):ai (.sl true 1 7 λi_ j_=>(iA x).getD (i_*7+j_) (.v (.bool false))) (ic [x])),af [ic [x]] (rB _ aE),ag 13 (!x.all) (by rw[ha];rfl),af [iP p] (Aa _),ag 17 (jV (p:Int)) (mm.2 ⟨aD,aD⟩),tF 22 ((n:Int)<0) aD,tF 26 (16<(n:Int)) aD,ag 30 ((n:Int)==0) (qk h0),af [iP 1] Xp,.c (xt (Dy.mk false 1 0) aE)]<|rQ (gR (gZ (Dy.mk false 1 0))) (gR (lp x n p)) (by unfold lp;rw[bh (by rw[ha];decide),bj h0])) 
def Xx(x:Iv)(n p:Nat)(hx:x.gQ)(ha:x.all=false)(h0:n≠0)(hn:n<=16)(he:n%2=0)(ie:8<=p)(gS:p<=512):gJ 326 [gR x,iP n,iP p] (gR (lp x n p)):=by
 have va:=qQ hx;obtain⟨w1,w2⟩:=va.kn;exact aj call326 func326 (aa [.o 12 (.e (lD _):ai (.sl true 1 7 λi_ j_=>(iA x).getD (i_*7+j_) (.v (.bool false))) (ic [x])),af [ic [x]] (rB _ aE),ag 13 (!x.all) (by rw[ha];rfl),af [iP p] (Aa _),ag 17 (jV (p:Int)) (mm.2 ⟨aD,aD⟩),tF 22 ((n:Int)<0) aD,tF 26 (16<(n:Int)) aD,ah 30 ((n:Int)==0) (mv h0),.a (aD:0<(2:Int)),.o 34 (an (Int.tmod (n:Int) 2) ((n%2:Nat):Int) (by rw[ajM aD];omega)),ag 35 (((n%2:Nat):Int)==0) (qk he),.c (Dv x aE),af [gM ((ib x).lo),iP n,iP p,bP false] (Nh _ _ _ aE aD aD aD aD),af [gM ((ib x).hi),iP n,iP p,bP true] (Ni _ _ _ aE aD aD aD aD),.c (KS ((kD ((ib x).lo) n p false).1) ((kD ((ib x).hi) n p true).1) ((kD ((ib x).lo) n p false).2) ((kD ((ib x).hi) n p true).2))]<|rQ (gR (mj ((kD ((ib x).lo) n p false).1) ((kD ((ib x).lo) n p false).2) ((kD ((ib x).hi) n p true).1) ((kD ((ib x).hi) n p true).2))) (gR (lp x n p)) (by unfold lp pz;rw[bh (by rw[ha];decide),bh h0,bj he])) 
def Xy(x:Iv)(n p:Nat)(hx:x.gQ)(ha:x.all=false)(h0:n≠0)(hn:n<=16)(he:¬n%2=0)(ie:8<=p)(gS:p<=512):gJ 326 [gR x,iP n,iP p] (gR (lp x n p)):=by
 have va:=hx;obtain⟨w1,w2⟩:=va.kn;exact aj call326 func326 (aa [.o 12 (.e (lD _):ai (.sl true 1 7 λi_ j_=>(iA x).getD (i_*7+j_) (.v (.bool false))) (ic [x])),af [ic [x]] (rB _ aE),ag 13 (!x.all) (by rw[ha];rfl),af [iP p] (Aa _),ag 17 (jV (p:Int)) (mm.2 ⟨aD,aD⟩),tF 22 ((n:Int)<0) aD,tF 26 (16<(n:Int)) aD,ah 30 ((n:Int)==0) (mv h0),.a (aD:0<(2:Int)),.o 34 (an (Int.tmod (n:Int) 2) ((n%2:Nat):Int) (by rw[ajM aD];omega)),ah 35 (((n%2:Nat):Int)==0) (mv he),af [gM x.lo,iP n,iP p,bP false] (Nh _ _ _ aE aD aD aD aD),af [gM x.hi,iP n,iP p,bP true] (Ni _ _ _ aE aD aD aD aD),.c (KS ((kD x.lo n p false).1) ((kD x.hi n p true).1) ((kD x.lo n p false).2) ((kD x.hi n p true).2))]<|rQ (gR (mj ((kD x.lo n p false).1) ((kD x.lo n p false).2) ((kD x.hi n p true).1) ((kD x.hi n p true).2))) (gR (lp x n p)) (by unfold lp pz;rw[bh (by rw[ha];decide),bh h0,bh he])) 
def Nk(x:Iv)(n p:Nat)(hx:x.gQ)(hn:n<=16)(ie:8<=p)(gS:p<=512):gJ 326 [gR x,iP (n:Int),iP (p:Int)] (gR (lp x n p)):=by
 cases ha:x.all with
 |true=>exact Xw x n p hx ha hn ie gS
 |false=>
  by_cases h0:n=0
  .exact Xz x n p hx ha h0 ie gS
  .by_cases he:n%2=0
   .exact Xx x n p hx ha h0 hn he ie gS
   .exact Xy x n p hx ha h0 hn he ie gS
def XE(z:Int):(z==0)=decide (z=0):=by by_cases h:z=0<;>simp[h]
def EU(x y:Iv):yy x y=(y.all||(!x.all&&(decide (jh y.lo x.lo<=0)&&decide (jh x.hi y.hi<=0)))):=rfl
def Xo(x y:Iv)(hx:x.gQ)(hy:y.gQ):gJ 70 [gR x,gR y] (bP (yy x y)):=by
 obtain⟨v1,v2⟩:=hx.kn;obtain⟨v3,v4⟩:=hy.kn;exact aj call70 func70 (aa [.c (vq x aE),.c (vq y aE)]<|.w (y.all=true)
  (λk1=>aa [tB 14 k1]<|rQ (bP true) (bP (yy x y)) (by rw[EU];simp[k1]))
  (λk1=>aa [tB 14 (bc k1)]<|.w (x.all=true)
   (λk2=>aa [tB 17 k2]<|rQ (bP false) (bP (yy x y)) (by rw[EU];simp[k1,k2]))
   (λk2=>aa [tB 17 (bc k2),af [gM y.lo,gM x.lo] (nT _ _ aE aE)]<|.w ((jh y.lo x.lo)<=0)
    (λk3=>aa [tB 25 (bk k3),af [gM x.hi,gM y.hi] (nT _ _ aE aE)]<|rQ (bP (decide ((jh x.hi y.hi)<=0))) (bP (yy x y)) (by rw[EU];simp[k1,k2,k3]))
    (λk3=>aa [tB 25 (bl k3)]<|rQ (bP false) (bP (yy x y)) (by rw[EU];simp[k1,k2,k3]))))) 
def Fp.kY(X Y:Nat->Iv)(p:Nat):Nat->Iv
 | 0=>ia (X 0) (Y 0) p
 |k+1=>jx (kY X Y p k) (ia (X (k+1)) (Y (k+1)) p) p
def Jh(X Y:Nat->Iv){p:Nat}(hp:1<=p)(gS:p<=4096):∀ k,(kY X Y p k).gQ
 | 0=>ml _ _ hp gS
 |k+1=>pU (Jh X Y hp gS k) (ml _ _ hp gS) hp gS
def Py(x y:Iv)(p:Nat):∀ (a b:List Iv) (X Y:Nat->Iv) (s:Nat),a.length=b.length->(∀ i,i<a.length->a.getD i gL=X (s+1+i))->(∀ i,i<b.length->b.getD i gL=Y (s+1+i)) ->
 (a.zip b).foldl (λs q=>jx s (ia q.1 q.2 p) p) (kY X Y p s)=kY X Y p (s+a.length)
 | [],[],X,Y,s,_,_,_=>rfl
 | [],_::_,_,_,_,h,_,_=>by simp at h
 |_::_,[],_,_,_,h,_,_=>by simp at h
 |u::a,v::b,X,Y,s,h,h1,h2=>by
  have e1:u=X (s+1):=h1 0 aJ;have e2:v=Y (s+1):=h2 0 aJ;rw[List.zip_cons_cons,ff];have:jx (kY X Y p s) (ia u v p) p=kY X Y p (s+1):=by rw[e1,e2];rfl
  rw[this,Py x y p a b X Y (s+1) (by simpa using h) (λi hi=>by
   have:=h1 (i+1) aR;rw[(aD:s+1+1+i=s+1+(i+1)),<-this];rfl) (λi hi=>by
   have:=h2 (i+1) aR;rw[(aD:s+1+1+i=s+1+(i+1)),<-this];rfl)]
  congr 1;simp;omega
def Y7{xs ys:List Iv}{p n:Nat}(h1:xs.length=n+1)(h2:ys.length=n+1):Fo xs ys p=kY (λq=>xs.getD q gL) (λq=>ys.getD q gL) p n:=by
 match xs,ys,h1,h2 with
 |x::a,y::b,h1,h2=>
  have ha:a.length=n:=by simpa using h1
  have hb:b.length=n:=by simpa using h2
  have:=Py x y p a b (λq=>(x::a).getD q gL) (λq=>(y::b).getD q gL) 0 aD (λi hi=>by rw[(aD:0+1+i=i+1)];rfl) (λi hi=>by rw[(aD:0+1+i=i+1)];rfl);rw[bU,ha]at this;exact this
def sT{α:Type}{l:List α}{i:Nat}{d:α}(h:i<l.length):l.getD i d=l[i]:=by
 rw[bn,bt h];rfl
def WG{a b:List (List Iv)}{n k c p:Nat}(ra:a.length=n)(la:∀ i,i<n->(a.getD i []).length=k+1)(rb:b.length=k+1)(lb:(b.getD 0 []).length=c):
 mn n (λ_=>c) (λi j=>kY (λq=>(a.getD i []).getD q gL) (λq=>(b.getD q []).getD j gL) p k)=kK a b p:=by
 unfold mn kK;have hb:(b.headD []).length=c:=by
  rw[<-lb];cases b with
  |nil=>rfl
  |cons r b=>rfl
 rw[hb];apply dw
 .simp [ra]
 .intro i h1 h2;have hi:i<n:=by simp at h1;omega
  have sX:i<a.length:= aD ;simp only[dx,dK];apply dh;intro j _;have e:=la i hi;rw[sT sX]at e ⊢;rw[Y7 e (show(Fc b j).length=k+1 by simp[Fc,rb])];congr 1;funext q;unfold Fc;by_cases hq:q<b.length
  .rw [sT (l:=b.map _) (by simpa using hq),sT hq];simp
  .rw [bn (l:=b.map _),bR (by simpa using hq),bn (l:=b),bR aD];simp
def WH{a:List (List Iv)}{x:Iv}{p:Nat}:mn a.length (λq=>(a.getD q []).length) (λi j=>ia x ((a.getD i []).getD j gL) p)=lM a x p:=by
 unfold mn lM;apply dw
 .simp
 .intro i h1 h2;have hi:i<a.length:=by simp at h1;omega
  simp only[dx,dK];rw[sT hi];apply dw
  .simp
  .intro j h3 h4;have hj:j<a[i].length:=by simpa using h3
   simp only[dx,dK];rw[sT hj]
def MI{n k:Nat}{F:Nat->Nat->Iv}(h1:1<=n)(h2:n<=8)(h3:1<=k)(h4:k<=8)(hv:∀ i j,(F i j).gQ):iY (mn n (λ_=>k) F) n k:=by
 refine⟨by simp[mn],λr hr=>?_,λr hr x hx=>?_,h1,h2,h3,h4⟩
 .obtain ⟨i,_,rfl⟩:=cw.1 hr;simp
 .obtain ⟨i,_,rfl⟩:=cw.1 hr;obtain⟨j,_,rfl⟩:=cw.1 hx;exact hv i j
def we{T n n' k:Nat}{F:Nat->Iv}{y:Iv}(hn:n=k)(qX:n'=k+1)(hy:y=F k):
 Bx.le (.row true T (n+[y].length) 7 λi j=>if i<n then ja ((List.range k).map F) i j else(E.ke (ic [y])) (i-n) j) (.row true T n' 7 (ja ((List.range (k+1)).map F))):=by
 subst hn qX hy;refine .row rfl λi j hi hj=>⟨.iD ?_,yA _ _ hj⟩
 have hi:i<n+1:=hi;by_cases h:i<n
 .rw [bj h];simp only[ja];rw[tz h,tz hi]
 .have lL:i=n:= aD ;subst lL;rw[bh h,cV];simp only[ja];rw[tz hi];rfl
def Cj{n i:Nat}{R:Nat->List Iv}(h:i<n):((List.range n).map R).getD i []=R i:=by simp[bn,h]
def Af{T n n' k m:Nat}{R:Nat->List Iv}{p:E}(hn:n=k)(qX:n'=k+1)(hm:m=1)(hp:∀ j,j<1->p.ke 0 j=ic (R k)):
 Bx.le (.row true T (n+m) 1 λi j=>if i<n then lj ((List.range k).map R) i j else(E.ke p) (i-n) j) (.row true T n' 1 (lj ((List.range (k+1)).map R))):=by
 subst hn qX hm;refine .row rfl λi j hi hj=>⟨.iD ?_,acv _⟩
 by_cases h:i<n
 .rw [bj h];simp only[lj];rw[Cj h,Cj hi]
 .have lL:i=n:= aD ;subst lL;rw[bh h,cV,hp j hj];simp only[lj];rw[Cj hi]
def Ae{n:Nat}{M:List (List Iv)}(hn:n=M.length):E.le (.sl true n 1 (lj M)) (gV M):=by subst hn;exact .refl _
def sC{n:Nat}{M:List Iv}(hn:n=M.length):E.le (.sl true n 7 (ja M)) (ic M):=by subst hn;exact .refl _
def Fp.iY.kS{m:List (List Iv)}{n k:Nat}(h:iY m n k){i:Nat}(hi:i<n):(m.getD i []).length=k:=by
 have lL:i<m.length:=by rw[h.iH];exact hi
 rw[bn,bt lL];exact h.row _ (ch lL)
def Fp.iY.mF{m:List (List Iv)}{n k:Nat}(h:iY m n k){i j:Nat}(hi:i<n)(hj:j<k):((m.getD i []).getD j gL).gQ:=by
 have lL:i<m.length:=by rw[h.iH];exact hi
 have hl:=h.kS hi;rw[bn (l:=m),bt lL]at hl ⊢;change m[i].length=k at hl;show(m[i].getD j gL).gQ;have oI:j<m[i].length:=by rw[hl];exact hj
 rw[bn,bt oI];exact h.ok _ (ch lL) _ (ch oI)
def Fp.iY.yE{m:List (List Iv)}{n k:Nat}(h:iY m n k)(i:Nat):(m.getD i []).length<=8:=by
 by_cases hi:i<n
 .rw [h.kS hi];exact h.k8
 .rw [bn,bR (by rw[h.iH];omega)];exact b6 _
def Jo{b:List (List Iv)}{k c:Nat}(gb:iY b k c)(q j:Nat):((b.getD q []).getD j gL).gQ:=by
 by_cases hq:q<k
 .by_cases hj:j<c
  .exact gb.mF hq hj
  .rw [bn,bR (by rw[gb.kS hq];omega)];exact nj
 .rw [bn (l:=b),bR (by rw[gb.iH];omega)];exact nj
def MH{a b:List (List Iv)}{n k p:Nat}(ga:iY a n k)(gb:iY b n k):mn a.length (λq=>(a.getD q []).length) (λi j=>jx ((a.getD i []).getD j gL) ((b.getD i []).getD j gL) p)=tN a b p:=by
 have ra:=ga.iH;have rb:=gb.iH;unfold mn tN;apply dw
 .simp [ra,rb]
 .intro i h1 h2;have hi:i<n:=by simp at h1;omega
  simp only[dx,dK,List.getElem_zipWith];have ea:a.getD i []=a[i]'(aD):=by rw[bn,bt aD];rfl
  have eb:b.getD i []=b[i]'(aD):=by rw[bn,bt aD];rfl
  have la:=ga.kS hi;have lb:=gb.kS hi;rw[ea]at la;rw[eb]at lb;rw[ea,eb];apply dw
  .simp [la,lb]
  .intro j h3 h4;have hj:j<k:=by simp[la]at h3;exact h3
   simp only[dx,dK,List.getElem_zipWith];congr 1
   .rw [bn,bt aD];rfl
   .rw [bn,bt aD];rfl
def Fp.jA(r:List Iv)(p:Nat):Nat->Dy
 | 0=>ix
 |k+1=>ji (iM (jA r p k) (ku (r.getD k gL))) p true
structure Fp.nK(r:List Iv)(p k:Nat):Prop where
 all:(r.getD k gL).all=false
 qU:jl (iM (jA r p k) (ku (r.getD k gL))) p true=0
def Fp.jF(m:List (List Iv))(p:Nat):Nat->Dy
 | 0=>ix
 |x+1=>if 0<jh (jA (m.getD x []) p (m.getD x []).length) (jF m p x)then jA (m.getD x []) p (m.getD x []).length else jF m p x
def oi(r:List Iv){p:Nat}(hp:1<=p)(gS:p<=4096):∀ k,(jA r p k).gQ
 | 0=>re
 |k+1=>lY _ _ _ _ _ _ hp gS
def xA(m:List (List Iv)){p:Nat}(hp:1<=p)(gS:p<=4096):∀ x,(jF m p x).gQ
 | 0=>re
 |x+1=>by
  unfold jF;split
  .exact oi _ hp gS _
  .exact xA m hp gS x
def aar(p:Nat)(l:List Iv):l.foldl (λs x=>s.bind λs=>if x.all then none else if jl (iM s (ku x)) p true≠0 then none else some (ji (iM s (ku x)) p true)) none=none:=by
 induction l with
 |nil=>rfl
 |cons x l ih=>rw[ff];exact ih
def Mh(p:Nat)(r:List Iv):∀ (l:List Iv) (k:Nat),(∀ i,i<l.length->l.getD i gL=r.getD (k+i) gL) ->
 ((∀ i,k<=i->i<k+l.length->nK r p i)->l.foldl (λs x=>s.bind λs=>if x.all then none else if jl (iM s (ku x)) p true≠0 then none else some (ji (iM s (ku x)) p true)) (some (jA r p k))=some (jA r p (k+l.length))) /\
 (∀ i,k<=i->i<k+l.length->¬nK r p i->l.foldl (λs x=>s.bind λs=>if x.all then none else if jl (iM s (ku x)) p true≠0 then none else some (ji (iM s (ku x)) p true)) (some (jA r p k))=none)
 | [],k,_=>⟨λ_=>rfl,λi h1 h2=>by simp at h2;omega⟩
 |x::l,k,h=>by
  have e:x=r.getD k gL:=h 0 aJ;have ih:=Mh p r l (k+1) (λi hi=>by have:=h (i+1) aR;rw[(aD:k+1+i=k+(i+1)),<-this];rfl);rw[ff];have hs:∀ (g:nK r p k),((some (jA r p k)).bind λs=>if x.all then none else if jl (iM s (ku x)) p true≠0 then none else some (ji (iM s (ku x)) p true))=some (jA r p (k+1)):=by
   intro g;have h1:=g.all;have h2:=g.qU;rw[<-e]at h1 h2;simp only[cS,h1,b9,bF,h2,cR,gj];rw[e];rfl
  have hf:¬nK r p k->((some (jA r p k)).bind λs=>if x.all then none else if jl (iM s (ku x)) p true≠0 then none else some (ji (iM s (ku x)) p true))=none:=by
   intro g;simp only[cS];by_cases h1:x.all=true
   .rw [bj h1]
   .rw [bh h1];by_cases h2:jl (iM (jA r p k) (ku x)) p true=0
    .exact absurd ⟨by rw[<-e];simpa using h1,by rw[<-e];exact h2⟩ g
    .rw [bj h2]
  refine⟨λhg=>?_,λi h1 h2 hb=>?_⟩
  .rw [hs (hg k aD aJ),ih.1 (λi h1 h2=>hg i aD aR)];congr 2;simp;omega
  .by_cases g:nK r p k
   .rw [hs g];refine ih.2 i ?_ (by simp at h2;omega) hb;by_cases hik:i=k
    .subst hik;exact absurd g hb
    .omega
   .rw [hf g,aar]
def Vk{r:List Iv}{p:Nat}(h:∀ i,i<r.length->nK r p i):Ch r p=some (jA r p r.length):=by
 have:=(Mh p r r 0 (λi _=>by rw[bU])).1 (λi _ hi=>h i aD);rwa[bU]at this
def agZ{r:List Iv}{p i:Nat}(hi:i<r.length)(h:¬nK r p i):Ch r p=none:=
 (Mh p r r 0 (λi _=>by rw[bU])).2 i aD aD h
def Ln(p:Nat)(m:List (List Iv)):∀ (l:List (List Iv)) (x:Nat),(∀ i,i<l.length->l.getD i []=m.getD (x+i) []) ->
 ((∀ i,x<=i->i<x+l.length->∀ k,k<(m.getD i []).length->nK (m.getD i []) p k)->l.foldl (λs r=>s.bind λs=>(Ch r p).map λn=>if 0<jh n s then n else s) (some (jF m p x))=some (jF m p (x+l.length))) /\
 (∀ i,x<=i->i<x+l.length->∀ k,k<(m.getD i []).length->¬nK (m.getD i []) p k->l.foldl (λs r=>s.bind λs=>(Ch r p).map λn=>if 0<jh n s then n else s) (some (jF m p x))=none)
 | [],x,_=>⟨λ_=>rfl,λi h1 h2=>by simp at h2;omega⟩
 |r::l,x,h=>by
  have e:r=m.getD x []:=h 0 aJ;have ih:=Ln p m l (x+1) (λi hi=>by have:=h (i+1) aR;rw[(aD:x+1+i=x+(i+1)),<-this];rfl);have hn:∀ (l:List (List Iv)),l.foldl (λs r=>s.bind λs=>(Ch r p).map λn=>if 0<jh n s then n else s) none=none:=by
   intro l;induction l with
   |nil=>rfl
   |cons y l ih=>rw[ff];exact ih
  rw[ff];refine⟨λhg=>?_,λi h1 h2 k hk hb=>?_⟩
  .rw [e,cS,Vk (hg x aD aJ),cL];have:=ih.1 (λi h1 h2=>hg i aD aR);rw[show x+(m.getD x []::l).length=x+1+l.length by simp only[cN];omega];exact this
  .by_cases g:∀ k,k<(m.getD x []).length->nK (m.getD x []) p k
   .rw [e,cS,Vk g,cL];refine ih.2 i ?_ (by simp at h2;omega) k hk hb;by_cases F3:i=x
    .subst F3;exact absurd (g k hk) hb
    .omega
   .have ⟨k',F6,mf⟩:∃ k',k'<(m.getD x []).length/\¬nK (m.getD x []) p k':=by
     apply bY;intro hc;exact g λk hk=>bY λq=>hc ⟨k,hk,q⟩
    rw[e,cS,agZ F6 mf,Option.map_none,hn]
def D1{m:List (List Iv)}{p:Nat}(h:∀ i,i<m.length->∀ k,k<(m.getD i []).length->nK (m.getD i []) p k):vy m p=some (jF m p m.length):=by
 have:=(Ln p m m 0 (λi _=>by rw[bU])).1 (λi _ hi=>h i aD);rwa[bU]at this
def Lm{m:List (List Iv)}{p i k:Nat}(hi:i<m.length)(hk:k<(m.getD i []).length)(h:¬nK (m.getD i []) p k):vy m p=none:=
 (Ln p m m 0 (λi _=>by rw[bU])).2 i aD aD k hk h
def pE:sf aq [bP ix.neg,gO (gK ix.m),iP ix.e]:=.cons (.refl _) (.cons xz (.cons (.refl _) .nil))
def oD(n:Nat)(h:n<4294967296):(gY (n:Int)).gQ:=pO (ux n h)
structure Fp.Iv.NN(x:Iv):Prop where
 lo:x.lo.neg=false
 hi:x.hi.neg=false
def zr(m:Nat)(e:Int):(canon false m e).neg=false:=by unfold canon;split<;>rfl
def Od(m:Nat)(e:Int)(more:Bool)(p:Nat)(up:Bool):(jK false m e more p up).neg=false:=by
 unfold jK;split
 .split
  .rfl
  .exact zr _ _
 .exact zr _ _
def Mf{d:Dy}(h:d.neg=false)(p:Nat)(up:Bool):(ji d p up).neg=false:=by unfold ji;rw[h];exact Od _ _ _ _ _
def aez{a b:Dy}(ha:a.neg=false)(hb:b.neg=false):(kG a b).neg=false:=by unfold kG;rw[ha,hb];exact zr _ _
def YT{a b:Dy}(ha:a.neg=false)(hb:b.neg=false)(p:Nat)(up:Bool):(jU a b p up).neg=false:=by
 unfold jU;rw[ha,hb];split
 .rfl
 .exact Od _ _ _ _ _
def GG{a b:Dy}(ha:a.neg=false)(hb:b.neg=false):(iZ a b).neg=false:=by unfold iZ;split<;>assumption
def DM{a b:Dy}(ha:a.neg=false)(hb:b.neg=false):(iT a b).neg=false:=by unfold iT;split<;>assumption
def Lt{a:Dy}(ha:a.neg=false)(k:Int):0<=a.num k:=by unfold Dy.num;rw[ha];simp
def ah5{a b:Dy}(ha:a.neg=false)(hb:b.neg=false):(iM a b).neg=false:=by
 unfold iM;split
 .exact hb
 .split
  .exact ha
  .unfold lE;have h1:=Lt ha (min a.e b.e);have h2:=Lt hb (min a.e b.e);rw[bl aD];exact zr _ _
def Ix:gL.NN:=⟨rfl,rfl⟩
def Pz{DD:Dy->Dy->Bool->Dy}{EE:Dy->Dy->Bool->Int}{x y:Iv}(hx:x.NN)(hy:y.NN)(h:∀ a b up,a.neg=false->b.neg=false->(DD a b up).neg=false):(lK DD EE x y).NN:=by
 unfold lK;split
 .exact ⟨GG (GG (GG (h _ _ _ hx.lo hy.lo) (h _ _ _ hx.lo hy.hi)) (h _ _ _ hx.hi hy.lo)) (h _ _ _ hx.hi hy.hi),
   DM (DM (DM (h _ _ _ hx.lo hy.lo) (h _ _ _ hx.lo hy.hi)) (h _ _ _ hx.hi hy.lo)) (h _ _ _ hx.hi hy.hi)⟩
 .exact Ix
def SA{x y:Iv}(hx:x.NN)(hy:y.NN)(p:Nat):(ia x y p).NN:=by
 unfold ia;split
 .exact Ix
 .exact Pz hx hy λa b up ha hb=>Mf (aez ha hb) p up
def Je{x y:Iv}(hx:x.NN)(hy:y.NN)(p:Nat):(ik x y p).NN:=by
 unfold ik;split
 .exact Ix
 .exact Pz hx hy λa b up ha hb=>YT ha hb p up
def WW(x:Iv):(ib x).NN:=by
 unfold ib;split
 .exact Ix
 .refine ⟨?_,DM rfl rfl⟩;show(mW x).neg=false;unfold mW;split
  .rfl
  .exact GG rfl rfl
def Tm{d:Dy}(h:d.neg=false):(gZ d).NN:=⟨h,h⟩
def GP(n:Nat):(gY (n:Int)).NN:=by
 refine Tm ?_;rw[tm];exact zr _ _
def Tn{u:Iv}(hu:u.NN)(p:Nat):∀ j,(jJ u p j).NN
 | 0=>GP 1
 |j+1=>SA (Tn hu p j) (Je hu (GP (j+1)) p) p
def S0(r:List Iv)(p:Nat):∀ k,(jA r p k).neg=false
 | 0=>rfl
 |k+1=>Mf (ah5 (S0 r p k) (DM rfl rfl)) p true
def SU(m:List (List Iv))(p:Nat):∀ x,(jF m p x).neg=false
 | 0=>rfl
 |x+1=>by
  unfold jF;split
  .exact S0 _ _ _
  .exact SU m p x
def ad4{a b:Dy}(ha:a.neg=false)(hb:b.neg=false)(iE:jh a b<0){k:Int}(h1:k<=a.e)(h2:k<=b.e):a.m*2^(a.e-k).toNat<b.m*2^(b.e-k).toNat:=by
 rw[zt (k:=k) (.inr h1) (.inr h2)]at iE;have h:a.num k<b.num k:=by
  unfold tW at iE;split at iE
  .assumption
  .split at iE<;>omega
 unfold Dy.num Dy.jP at h;rw[ha,hb]at h;simp only[b9,bF]at h;exact Int.ofNat_lt.1 h
def YS{a b:Dy}(ha:a.neg=false)(hb:b.neg=false)(b0:b.m≠0)(iE:jh a b<0)(p:Nat):jh (jU a b p false) (canon false 1 0)<=0:=by
 unfold jU;by_cases a0:a.m=0
 .rw [bj a0];have:ix=canon false 0 0:=rfl;rw[this];exact(CH (s:=false) (K:=0) (b8 _) (b8 _) aJ).1 rfl
 rw[bh a0,ha,hb];generalize hK:j8 a b p 2=K;generalize hq:a.m*2^K/b.m=q;generalize hE:a.e-b.e-(K:Int)=E;have QU:q*b.m<=a.m*2^K:=by rw[<-hq];exact dj _ _
 have key:q*2^(E-min E 0).toNat<2^(0-min E 0).toNat:=by
  have kx:min (a.e-K) b.e<=a.e:= aD ;have rp:min (a.e-K) b.e<=b.e:= aD ;have h:=ad4 ha hb iE kx rp;have e1:(a.e-min (a.e-K) b.e).toNat=K+(E-min E 0).toNat:= aD ;have e2:(b.e-min (a.e-K) b.e).toNat=(0-min E 0).toNat:= aD ;rw[e1,e2,bq,<-bw]at h;have h3:q*b.m*2^(E-min E 0).toNat<b.m*2^(0-min E 0).toNat:=cC (bL _ QU) h;rw[bB q,bw]at h3;exact Nat.lt_of_mul_lt_mul_left h3
 have hqe:q=0\/(gU q:Int)+E<=0:=by
  by_cases FN:0<=E
  .left;rw[show(0-min E 0).toNat=0 by omega,bV]at key;rcases gD.1 (dT.1 key)with h|h
   .exact h
   .exact absurd h (ef (bu aF))
  .right;rw[show(E-min E 0).toNat=0 by omega,bV,bW]at key;have:=kB.2 key;omega
 generalize decide (a.m*2^K%b.m≠0)=more;have hQ:ks q E more p (false != false)=q/2^iO q E p:=by unfold ks;simp
 have hsm:q/2^iO q E p≠0->(gU (q/2^iO q E p):Int)+E+iO q E p<=0:=by
  intro hn;have mB:=qw hn (iO q E p);have hm:=sg (dj q (2^iO q E p));rcases hqe with h|h
  .rw [h,fm]at hn;exact absurd rfl hn
  .omega
 have hO:lr q E more p (false != false)=false:=by
  unfold lr;rw[hQ];by_cases hn:q/2^iO q E p=0
  .simp [hn]
  .have:=hsm hn;rw[bl (aD:¬16384<(gU (q/2^iO q E p):Int)+E+iO q E p)];simp
 unfold jK;rw[show((false != false) != false)=(false != false)from rfl,hO,bh aF,hQ];refine(CH (s:=(false != false)) (K:=min E 0) aD aD ?_).1 rfl;rw[bX,show(E+(iO q E p:Int)-min E 0).toNat=iO q E p+(E-min E 0).toNat by omega,bq,<-bw];exact dv (cC (bL _ (dj _ _)) key)
def S1:(gY 1).gQ:=pO (ux 1 aF)
def Fp.Iv.gQ.ZE{x:Iv}(h:x.gQ):x.lo.lA/\x.hi.lA:=⟨h.kn.1.canon,h.kn.2.canon⟩
def adU{d:Dy}(hd:d.lA)(h:0<=d.jc):d.neg=false:=by
 unfold Dy.jc at h;rcases hd with⟨_,h2,_⟩|h1
 .exact h2
 .rw [bh aD]at h;cases hn:d.neg with
  |false=>rfl
  |true=>rw[hn]at h;simp at h
def VK{d:Dy}(h:d.neg=false):0<=d.jc:=by
 unfold Dy.jc;rw[h];split
 .omega
 .simp
def Gx{c:Nat}(hc:0<c):(jI (c:Int)).m≠0:=by
 rw[tm];exact(zq (s:=false) (e:=0) aD).2.2.1
def ad3{c:Nat}(hc:0<c):lR (gY (c:Int))=1:=by
 unfold lR gY gZ;simp only[b9,bF];rw[bj];unfold Dy.jc;rw[bh (Gx hc),show(jI (c:Int)).neg=false by rw[tm];exact zr _ _];simp
def agK{u t:Iv}{c p:Nat}(hu:u.NN)(hc:0<c)(hua:u.all=false)(iE:jh u.hi (jI (c:Int))<0)(ht:t.NN)
 (he:(ik t (je (gY 1) (ik u (gY (c:Int)) p) p) p).all=false) (ie:1<=p) (gS:p<=4096):(ik t (je (gY 1) (ik u (gY (c:Int)) p) p) p).NN:=by
 have vj:(gY 1).NN:=GP 1;generalize hq:ik u (gY (c:Int)) p=q at *
 have hqn:q.NN:=hq▸Je hu (GP c) p;have QW:q.gQ:=hq▸lT _ _ ie gS;have abA:∀ d:Iv,d.all=true->(ik t d p).all=true:=λd hd=>by unfold ik;rw[hd];simp[gL]
 have zF:(je (gY 1) q p).all=false:=by
  cases h:(je (gY 1) q p).all with
  |false=>rfl
  |true=>rw[abA _ h]at he;cases he
 have zQ:q.all=false:=by
  cases h:q.all with
  |false=>rfl
  |true=>
   exfalso;have:(je (gY 1) q p)=gL:=by
    unfold je oC jx;rw[h];simp[gL]
   rw[this]at zF;cases zF
 have ajv:jh q.lo (canon false 1 0)<=0:=by
  have hf:q=lK (λa b up=>jU a b p up) (λa b up=>mH a b p up) u (gY (c:Int)):=by
   rw[<-hq];unfold ik;rw[bh];rw[hua,ad3 hc];simp[gY,gZ]
  have iJ:q.lo=iZ (iZ (iZ (jU u.lo (jI (c:Int)) p false) (jU u.lo (jI (c:Int)) p false)) (jU u.hi (jI (c:Int)) p false)) (jU u.hi (jI (c:Int)) p false):=by
   rw[hf]at zQ ⊢;unfold lK at zQ ⊢;split
   .rfl
   .rename_i kV;rw[bh kV]at zQ;cases zQ
  rw[iJ];exact le_trans (Su _ _) (YS hu.hi (by rw[tm];exact zr _ _) (Gx hc) iE p)
 have QQ:jI 1=canon false 1 0:=tm 1;have yn:0<=(iM (jI 1) (iB q.lo)).jc:=by
  by_cases h0:q.lo.m=0
  .have:(iB q.lo).m=0:=h0;have:iM (jI 1) (iB q.lo)=jI 1:=by
    unfold iM;rw[bh (show(jI 1).m≠0 from Gx (c:=1) aF),bj this]
   rw[this];exact VK vj.lo
  .rw [NY (show(jI 1).m≠0 from Gx (c:=1) aF) h0,QQ,wS];omega
 have Qv:(je (gY 1) q p).gQ:=pU S1 (rZ QW) ie gS;have abp:je (gY 1) q p=mj (ji (iM (jI 1) (iB q.hi)) p false) (jl (iM (jI 1) (iB q.hi)) p false) (ji (iM (jI 1) (iB q.lo)) p true) (jl (iM (jI 1) (iB q.lo)) p true):=by
  unfold je oC jx;rw[zQ];rfl
 have hhi:(je (gY 1) q p).hi=ji (iM (jI 1) (iB q.lo)) p true:=by
  rw[abp]at zF ⊢;unfold mj at zF ⊢;split
  .rename_i h;rw[bj h]at zF;cases zF
  .rfl
 have hsc:(iM (jI 1) (iB q.lo)).lA:=E8 (by rw[QQ];exact rj _ _ _) (Ah (QW.ZE.1));have QG:(je (gY 1) q p).hi.neg=false:=by
  rw[hhi];exact Mf (adU hsc yn) p true
 have BB:lR (je (gY 1) q p)≠0:=by
  intro hz;have:(ik t (je (gY 1) q p) p).all=true:=by unfold ik;rw[bj (by rw[hz];simp)];rfl
  rw[this]at he;cases he
 have abL:(je (gY 1) q p).lo.neg=false:=by
  unfold lR at BB;rw[zF]at BB;simp only[b9,bF]at BB;have hh:=VK QG;split at BB
  .rename_i h;cases hn:(je (gY 1) q p).lo.neg with
   |false=>rfl
   |true=>unfold Dy.jc at h;rw[hn]at h;split at h<;>simp at h
  .rw [bh aD]at BB;exact absurd rfl BB
 exact Je ht ⟨abL,QG⟩ p
def Ro{n:Nat}(h1:1<=n)(h8:n<=8):iY (yv n) n n:=
 MI (F:=λi j=>gZ (if i=j then⟨false,1,0⟩else ix)) h1 h8 h1 h8 λi j=>by
  split
  .exact S1
  .exact pO re
def abC{b:List (List Iv)}{k c:Nat}(gb:iY b k c):(b.headD []).length=c:=by
 cases b with
 |nil=>have:=gb.iH;have:=gb.n1;simp at *;omega
 |cons r b=>exact gb.row r aJ 
def vv{a b:List (List Iv)}{n k c p:Nat}(ga:iY a n k)(gb:iY b k c)(ie:1<=p)(gS:p<=4096):iY (kK a b p) n c:=by
 refine⟨by simp[kK,ga.iH],λr hr=>?_,λr hr x hx=>?_,ga.n1,ga.n8,gb.k1,gb.k8⟩
 .obtain ⟨q,_,rfl⟩:=cw.1 hr;rw[cr,dL,abC gb]
 .obtain ⟨q,_,rfl⟩:=cw.1 hr;obtain⟨j,_,rfl⟩:=cw.1 hx;exact Y8 ie gS
def vE{a:List (List Iv)}{x:Iv}{n k p:Nat}(ga:iY a n k)(ie:1<=p)(gS:p<=4096):iY (lM a x p) n k:=by
 refine⟨by simp[lM,ga.iH],λr hr=>?_,λr hr y hy=>?_,ga.n1,ga.n8,ga.k1,ga.k8⟩
 .obtain ⟨q,hq,rfl⟩:=cw.1 hr;simp[ga.row q hq]
 .obtain ⟨q,_,rfl⟩:=cw.1 hr;obtain⟨z,_,rfl⟩:=cw.1 hy;exact ml _ _ ie gS
def Lb{α β γ:Type}{f:α->β->γ}{l:List α}{m:List β}{z:γ}(h:z ∈ List.zipWith f l m):∃ x y,x ∈ l/\y ∈ m/\z=f x y:=by
 induction l generalizing m with
 |nil=>simp at h
 |cons a l ih=>
  cases m with
  |nil=>simp at h
  |cons b m=>
   rw[List.zipWith_cons_cons]at h;rcases cM.1 h with h|h
   .exact ⟨a,b,aJ,aJ,h⟩
   .obtain ⟨x,y,h1,h2,h3⟩:=ih h;exact⟨x,y,by simp[h1],by simp[h2],h3⟩
def WZ{a b:List (List Iv)}{n k p:Nat}(ga:iY a n k)(gb:iY b n k)(ie:1<=p)(gS:p<=4096):iY (tN a b p) n k:=by
 refine⟨by simp[tN,ga.iH,gb.iH],λr hr=>?_,λr hr y hy=>?_,ga.n1,ga.n8,ga.k1,ga.k8⟩
 .obtain ⟨u,v,h1,h2,rfl⟩:=Lb hr;simp[ga.row u h1,gb.row v h2]
 .obtain ⟨u,v,h1,h2,rfl⟩:=Lb hr;obtain⟨x,z,h3,h4,rfl⟩:=Lb hy;exact pU (ga.ok u h1 x h3) (gb.ok v h2 z h4) ie gS
def sd{m:List (List Iv)}{h:Iv}{n p:Nat}(ga:iY m n n)(ie:1<=p)(gS:p<=4096):∀ j,iY (jX m h p j) n n
 | 0=>by
  have:=ga.iH;unfold jX;rw[this];exact Ro ga.n1 ga.n8
 |j+1=>vE (vv (sd ga ie gS j) ga ie gS) ie gS
def qa{m:List (List Iv)}{h:Iv}{n p:Nat}(ga:iY m n n)(ie:1<=p)(gS:p<=4096):∀ j,iY (iQ m h p j) n n
 | 0=>by
  have:=ga.iH;unfold iQ;rw[this];exact Ro ga.n1 ga.n8
 |j+1=>WZ (qa ga ie gS j) (sd ga ie gS (j+1)) ie gS
section
variable {m m':List (List Iv)} {h h':Iv} {n p:Nat}
end
open Classical in
noncomputable def Fp.VA(d:Dy)(k:Int):Dy:=if pe (canon d.neg d.m (d.e+k))then canon d.neg d.m (d.e+k)else ix
open Classical in
noncomputable def Fp.VB(d:Dy)(k:Int):Int:=if pe (canon d.neg d.m (d.e+k))then 0 else 9
noncomputable def Fp.ahr(x:Iv)(k:Int):Iv:=if x.all then gL else mj (VA x.lo k) (VB x.lo k) (VA x.hi k) (VB x.hi k)
def Zg(k:Nat)(w:World)(h0:0<k)(hn:k<4294967296)(qy:Tb w):
 Calls prog 180 #[.int .i64 (-(k:Int))] w (sO w (canon true k 0)):=by
 have hd:(k:Int)/4294967296=0:= aD ;have iE:(-(k:Int))<0:= aD ;have C7:decide ((-(k:Int))<0)=true:=bk iE;have hu:IntKind.u64.wrap (-(k:Int))=18446744073709551616-k:=by rw[IntKind.wrap_u64];omega
 have hs:IntKind.u64.wrap (-(18446744073709551616-(k:Int)))=k:=by rw[IntKind.wrap_u64];omega
 have FM:IntKind.u32.wrap (k:Int)=k:=by rw[IntKind.wrap_u32];omega
 have ht:(gT [k,0]).length<=256:=by have:=n9 [k,0];unfold lI at this;simp at this;omega
 have HC:=akw (λ(A:Option Addr) c w (h:Sl w A c [k,0]) (hT:Tb w)=>Ft true A c [k,0] 0 w h aJ ht aF aF hT);have hv:val [k,0]=k:= aJ ;rw[hv]at HC;clear hv ht;generalize canon true k 0=d at *
 generalize hN:(-(k:Int))=N at *
 go_enter func180,ntmps180;go_wp2_with fail;refine(HC.out _ _ _ (Sl.Ih _ _ aJ _ _ k 0 rfl rfl hn aF) (qy.below (by first|exact(iu.alloc _ _).trans (iu.alloc _ _)|exact iu.alloc _ _))).mono ?_;rintro r w1 ⟨A1,c1,rfl,rY,kJ⟩;have om:iu (w.alloc (.cells #[.bool false,.slice none 0 0,.int .i64 0] 39)) w1:=(iu.alloc _ _).trans kJ;have bx:=(ju.new w false none 0 0 0).ext om;have b0:=bx.c0;have b1:=bx.c1;have b2:=bx.c2;have f0:=bx.fr 0;have f1:=bx.fr 1;have f2:=bx.fr 2;go_wp2;exact rT rfl rfl rfl (bx.set _ _ _ _ _) rfl (bx.sM rY _ _ _ _ _) (ju.sc ((iu.alloc _ _).trans om) (bp _) _ _ _ _ _)
def CF(n:Int)(h:n.natAbs<4294967296):gJ 180 [iP n] (gM (jI n)):=by
 by_cases h0:0<=n
 .obtain ⟨k,rfl⟩:=dm h0;exact Nj k aD 
 .obtain ⟨k,rfl⟩:∃ k:Nat,n = -(k:Int):=⟨n.natAbs,aD⟩
  rw[Rs k aD];refine⟨call180,λw B vs hK hB hr=>?_⟩;obtain⟨v1,vs,rfl,h1,hr⟩:=hr.lV;obtain rfl:=hr.ph;obtain rfl:=iz.kE h1;exact(Zg k w aD aD hK).mono λe w' h=>rd B w e w' hB h
def MW(x:Rat):Rat:=if 0<=x then x else -x
def WX:MW 0=0:=rfl
abbrev QM:=Nat->Nat->Rat
section
variable {m:List (List Iv)} {h:Iv} {M:QM} {t:Rat} {n p:Nat}
end
section
variable {n:Nat} {M:QM}
end
def CA(f:Nat->Rat)(X:Iv):Prop:=∀ ε,0<ε->∃ N0,∀ N,N0<=N->∃ r,X.sW r/\MW (f N-r)<=ε
def CA.ad6{f:Nat->Rat}{X:Iv}{k:Nat}(h:∀ N,k<=N->X.sW (f N)):CA f X:=λε hε=>
 ⟨k,λN hN=>⟨f N,h N hN,by rw[Rat.sub_self,WX];exact dp hε⟩⟩
def CA.all{f:Nat->Rat}{X:Iv}(h:X.all=true):CA f X:=CA.ad6 (k:=0) λ_ _=>.inl h
def Ih{i:Nat}(h:i<2):i=0\/i=1:= aD 
def WL:Dy:=⟨false,1014047155841371404857783918912611814895143950022408150448898879701903863171748812343190420115852101928445847465915947005,-398⟩
def WM:Dy:=⟨false,2028094311682742809715567837825223629790287900044816300897797759403807726343497624686380840231704203856891694931831894109,-399⟩
def HF:Iv:=⟨WL,WM,false⟩
def after{N:Nat}(h:100<=N):∃ d,N=100+d:=⟨N-100,aD⟩
def ivW{x:Iv}(hx:x.gQ)(ha:x.all=true):x=gL:=by
 obtain⟨h1,h2⟩:=KU hx ha;obtain⟨a,b,c⟩:=x;simp only at h1 h2 ha;rw[h1,h2,ha];rfl
def ID:Iv:=⟨ix,ix,false⟩
def aji:E.le (.agg ar) (gR ID):=
 .agg (.cons (.refl _) (.cons xz (.cons (.refl _) (.cons (.refl _) (.cons xz (.cons (.refl _) (.cons (.refl _) .nil)))))))
def lJ(a b:Nat):Nat->Nat×Nat
 | 0=>(a,b)
 |k+1=>((lJ a b k).2,(lJ a b k).1%(lJ a b k).2)
def Jt(a b:Nat):∀ k,lJ a b (k+1)=lJ b (a%b) k
 | 0=>rfl
 |k+1=>by
  show((lJ a b (k+1)).2,(lJ a b (k+1)).1%(lJ a b (k+1)).2)=_;rw[Jt a b k];rfl
def Js(a b:Nat):∀ k,Nat.gcd (lJ a b k).1 (lJ a b k).2=Nat.gcd a b
 | 0=>rfl
 |k+1=>by
  show Nat.gcd (lJ a b k).2 ((lJ a b k).1%(lJ a b k).2)=_;rw[<-Js a b k];exact(fA _ _).trans ((Nat.gcd_rec _ _).symm.trans (fA _ _))
def Pg:∀ (b a:Nat),∃ N,(∀ k,k<N->(lJ a b k).2≠0)/\(lJ a b N).2=0:=by
 intro b
 induction b using Nat.strongRecOn with
 |ind b ih=>
  intro a;by_cases h:b=0
  .exact ⟨0,λk hk=>absurd hk (bC k),h⟩
  .obtain ⟨N,h1,h2⟩:=ih (a%b) (bA a (ep h)) b;refine⟨N+1,λk hk=>?_,by rw[Jt];exact h2⟩;rcases k with _|k
   .exact h
   .rw [Jt];exact h1 k aD 
def ni(n d:Int)(p:Nat):Iv:=if lv n d then mj (jU (jI n) (jI d) p false) (mH (jI n) (jI d) p false) (jU (jI n) (jI d) p true) (mH (jI n) (jI d) p true)else gL
def KP{d:Int}(h:d≠0):(jI d).m≠0:=by
 intro q;have hq:=LP d;rw[uE,q]at hq;have e:(d:Rat)=0:=by
  rw[<-hq];split<;>simp
 rw[show(0:Rat)=((0:Int):Rat)from rfl,Rat.intCast_inj]at e;exact h e
def Fm{a b:Dy}(b0:b.m≠0){p:Nat}(hp:1<=p)(gS:p<=4096)(up:Bool):(jU a b p up).gQ:=by
 unfold jU;split
 .exact re
 .exact lY _ _ _ _ _ _ hp gS
def ag9(n d:Int){p:Nat}(hp:1<=p)(gS:p<=4096):(ni n d p).gQ:=by
 unfold ni;split
 .rename_i h;obtain⟨r1,_⟩:=Cb h;have d0:(jI d).m≠0:=KP aD;unfold mj;split
  .exact nj
  .rename_i he;obtain⟨A,B⟩:=Oz (a:=jI n) d0 hp gS;refine .inr ⟨rfl,Fm d0 hp gS _,Fm d0 hp gS _,?_⟩;rw[Aq];exact dV (A.1 aD).2 (B.1 aD).2
 .exact nj
def PL(a b:Nat)(x:Nat):PS:=⟨12,true,[(0,.e (.v (.int .u64 (((lJ a b x).1:Nat):Int)))),(1,.e (.v (.int .u64 (((lJ a b x).2:Nat):Int))))],[]⟩
def aaJ(a b N:Nat)(ha:a<18446744073709551616)(hb:b<18446744073709551616)(iJ:∀ k,k<N->(lJ a b k).2≠0)(hN:(lJ a b N).2=0):gJ 214 [.v (.int .u64 (a:Int)),.v (.int .u64 (b:Int))] (.v (.int .u64 (((lJ a b N).1:Nat):Int))):=
 aj call214 func214 (ae [.s (Sp.iG (PL a b) 0 N aD (λx hx jf=>by
    have om:=iJ x aD;exact gX (aa [ag 6 ((((lJ a b x).2:Nat):Int) != 0) (BO (iJ x aD)),.a (aD:0<((((lJ a b x).2:Nat):Int):Int))]<|.e (ae [.o 0 (.int aS:ai (.v (.int .u64 (((lJ a b x).2:Nat):Int))) (.v (.int .u64 (((lJ a b (x+1)).1:Nat):Int)))),.o 1 (.int aS:ai (.v (.int .u64 ((((lJ a b x).1)%((lJ a b x).2):Nat):Int))) (.v (.int .u64 (((lJ a b (x+1)).2:Nat):Int))))])) aG)
  (λhx=>by
    exact gX (ae [ah 6 ((((lJ a b N).2:Nat):Int) != 0) (yJ hN)]) aG) aK:iF 1 f214 (PL a b 0) (.exit 0) ⟨12,true,[(0,.e (.v (.int .u64 (((lJ a b N).1:Nat):Int))))],[]⟩) (ae [.o 0 (.int aS:ai (.v (.int .u64 (a:Int))) (.v (.int .u64 (((lJ a b 0).1:Nat):Int)))),.o 1 (.int aS:ai (.v (.int .u64 (b:Int))) (.v (.int .u64 (((lJ a b 0).2:Nat):Int))))])]) 
def aaK(a b:Nat)(ha:a<18446744073709551616)(hb:b<18446744073709551616):gJ 214 [.v (.int .u64 (a:Int)),.v (.int .u64 (b:Int))] (.v (.int .u64 (Nat.gcd a b:Int))):=by
 obtain⟨N,h1,h2⟩:=Pg b a;have hg:=Js a b N;rw[h2,akd]at hg;rw[<-hg];exact aaJ a b N ha hb h1 h2
def ahR(m:Nat)(h:m<=1073741824):gJ 215 [iP m] (.v (.int .u64 (m:Int))):=
 aj call215 func215 (ae [tF 4 ((m:Int)<0) aD,.o 9 (.int (oH _ aD):ai (.v (.int .u64 (IntKind.u64.wrap (m:Int)))) (.v (.int .u64 (m:Int))))]) 
def ahQ(m:Nat)(h0:0<m)(h:m<=1073741824):gJ 215 [iP (-(m:Int))] (.v (.int .u64 (m:Int))):=
 aj call215 func215 (ae [tT 4 ((-(m:Int))<0) aD,gW (0-(-(m:Int))) aD,.o 6 (an (0-(-(m:Int))) m aD),.o 7 (.int (oH _ aD):ai (.v (.int .u64 (IntKind.u64.wrap (m:Int)))) (.v (.int .u64 (m:Int))))]) 
def VO(n:Int)(h1:-1073741824<=n)(h2:n<=1073741824):gJ 215 [iP n] (.v (.int .u64 (n.natAbs:Int))):=by
 by_cases h:0<=n
 .obtain ⟨m,rfl⟩:=dm h;exact ahR m aD 
 .obtain ⟨m,rfl⟩:∃ m:Nat,n = -(m:Int):=⟨n.natAbs,aD⟩
  rw[fj,dc];exact ahQ m aD aD 
def wv(g:Nat):((g:Int)==1)=decide (g=1):=by
 by_cases h:g=1
 .subst h;rfl
 .rw [bl h];exact a7 aD 
def Hb(n d:Int):gJ 132 [.agg [iP n,iP d]] (bP (lv n d)):=
 aj call132 func132 (.w (1<=d)
  (λk1=>aa [tB 5 (bk k1)]<|.w (d<=1073741824)
   (λk2=>aa [tB 9 (bk k2)]<|.w ((-1073741824)<=n)
    (λk3=>aa [tB 14 (bk k3)]<|.w (n<=1073741824)
     (λk4=>aa [tB 19 (bk k4),af [iP n] (VO _ aD aD),af [iP d] (VO _ aD aD),.c (aaK (Int.natAbs n) (Int.natAbs d) aD aD)]<|rQ (bP ((Nat.gcd (Int.natAbs n) (Int.natAbs d):Int)==1)) (bP (lv n d)) (by unfold lv;simp[wv,k1,k2,k3,k4]))
     (λk4=>aa [tB 19 (bl k4)]<|rQ (bP false) (bP (lv n d)) (by unfold lv;simp[wv,k1,k2,k3,k4])))
    (λk3=>aa [tB 14 (bl k3)]<|rQ (bP false) (bP (lv n d)) (by unfold lv;simp[wv,k1,k2,k3])))
   (λk2=>aa [tB 9 (bl k2)]<|rQ (bP false) (bP (lv n d)) (by unfold lv;simp[wv,k1,k2])))
  (λk1=>aa [tB 5 (bl k1)]<|rQ (bP false) (bP (lv n d)) (by unfold lv;simp[wv,k1]))) 
def Sh{lo hi:Dy}{e f:Int}(h:e≠0\/f≠0):mj lo e hi f=gL:=bj h
def ac4{lo hi:Dy}{e f:Int}(h:e=0)(k:f=0):mj lo e hi f=⟨lo,hi,false⟩:=bh (by rw[h,k];decide)
def af0(n d:Int)(p:Nat)(h:lv n d=true)(ie:8<=p)(gS:p<=512):gJ 288 [.agg [iP n,iP d],iP p] (gR (ni n d p)):=by
 obtain⟨r1,r2,r3,r4⟩:=Cb h;have v1:=Gy (n:=n) aD;have v2:=Gy (n:=d) aD;have d0:(jI d).m≠0:=KP aD;exact aj call288 func288 (aa [.c (Hb n d),ah 11 (!(lv n d)) (by rw[h];rfl),af [iP n] (CF _ aD),af [iP d] (CF _ aD),.c (UI (jI n) (jI d) p aE aE aE aD aD),af [iP n] (CF _ aD),af [iP d] (CF _ aD),.c (UJ (jI n) (jI d) p aE aE aE aD aD)]<|.w ((mH (jI n) (jI d) p false)=0)
  (λk1=>aa [tB 36 (bd k1)]<|.w ((mH (jI n) (jI d) p true)=0)
   (λk2=>aa [tB 39 (bd k2)]<|rQ (gR (Iv.mk (jU (jI n) (jI d) p false) (jU (jI n) (jI d) p true) false)) (gR (ni n d p)) (by unfold ni;rw[bj h,ac4 k1 k2]))
   (λk2=>aa [tB 39 (bg k2),.o 41 (.e xR:ai (.agg [bP false,.v (.slice none 0 0),iP 0,bP false,.v (.slice none 0 0),iP 0,bP true]) (gR gL))]<|rQ (gR gL) (gR (ni n d p)) (by unfold ni;rw[bj h,Sh (.inr k2)])))
  (λk1=>aa [tB 36 (bg k1),.o 41 (.e xR:ai (.agg [bP false,.v (.slice none 0 0),iP 0,bP false,.v (.slice none 0 0),iP 0,bP true]) (gR gL))]<|rQ (gR gL) (gR (ni n d p)) (by unfold ni;rw[bj h,Sh (.inl k1)]))) 
noncomputable def JC(x:Iv)(p:Nat):Iv:=@dite Iv (∃ y:Iv,y.gQ/\gJ 327 [gR x,iP (p:Int)] (gR y)) (Classical.propDecidable _) Classical.choose (λ_=>gL)
def aad(x:Iv)(p:Nat):(JC x p).gQ:=by
 unfold JC;split
 .rename_i h;exact(dS h).1
 .exact nj
noncomputable def JD(x:Iv)(p:Nat):Iv:=@dite Iv (∃ y:Iv,y.gQ/\gJ 328 [gR x,iP (p:Int)] (gR y)) (Classical.propDecidable _) Classical.choose (λ_=>gL)
def aae(x:Iv)(p:Nat):(JD x p).gQ:=by
 unfold JD;split
 .rename_i h;exact(dS h).1
 .exact nj
noncomputable def FH(x:Iv)(p:Nat):Iv:=@dite Iv (∃ y:Iv,y.gQ/\gJ 329 [gR x,iP (p:Int)] (gR y)) (Classical.propDecidable _) Classical.choose (λ_=>gL)
def aaf(x:Iv)(p:Nat):(FH x p).gQ:=by
 unfold FH;split
 .rename_i h;exact(dS h).1
 .exact nj
noncomputable def FG(x:Iv)(p:Nat):Iv:=@dite Iv (∃ y:Iv,y.gQ/\gJ 330 [gR x,iP (p:Int)] (gR y)) (Classical.propDecidable _) Classical.choose (λ_=>gL)
def aac(x:Iv)(p:Nat):(FG x p).gQ:=by
 unfold FG;split
 .rename_i h;exact(dS h).1
 .exact nj
noncomputable def JE(x:Iv)(p:Nat):Iv:=@dite Iv (∃ y:Iv,y.gQ/\gJ 331 [gR x,iP (p:Int)] (gR y)) (Classical.propDecidable _) Classical.choose (λ_=>gL)
def aag(x:Iv)(p:Nat):(JE x p).gQ:=by
 unfold JE;split
 .rename_i h;exact(dS h).1
 .exact nj
def EW(o:kq):Bool:=decide (o.kind<=6)
noncomputable def ld(o:kq)(x y:Iv)(p:Nat):Iv:=
 if o.kind=3 then jx x y p else if o.kind=4 then je x y p else if o.kind=5 then ia x y p else if o.kind=6 then ik x y p
 else if o.kind=7 then oC x else if o.kind=8 then lp x o.n p else if o.kind=9 then JC x p else if o.kind=10 then JD x p
 else if o.kind=11 then FH x p else if o.kind=12 then FG x p else if o.kind=13 then JE x p else gL
noncomputable def qv(o:kq)(l:List Iv)(p:Nat):Iv:=if o.kind=1 then ni o.cn o.cd p else ld o (l.getD o.a gL) (if EW o then l.getD o.b gL else gL) p
noncomputable def iC(gI:List kq)(xs:List Iv)(p:Nat):Nat->List Iv
 | 0=>xs
 |k+1=>iC gI xs p k++[qv (gI.getD k ig) (iC gI xs p k) p]
noncomputable def nn(t:lS)(xs:List Iv)(p:Nat):List Iv:=t.gN.map λk=>(iC t.gI xs p t.gI.length).getD k gL
def wM(gI:List kq)(xs:List Iv)(p:Nat):∀ k,(iC gI xs p k).length=xs.length+k
 | 0=>rfl
 |k+1=>by simp only[iC,cv,wM gI xs p k,cN,fu];omega
def W9(o:kq){x y:Iv}(hx:x.gQ)(hy:y.gQ){p:Nat}(hp:1<=p)(gS:p<=4096):(ld o x y p).gQ:=by
 unfold ld;split
 .exact pU hx hy hp gS
 split
 .exact pU hx (rZ hy) hp gS
 split
 .exact ml _ _ hp gS
 split
 .exact lT _ _ hp gS
 split
 .exact rZ hx
 split
 .exact LN hx _ hp gS
 split
 .exact aad _ _
 split
 .exact aae _ _
 split
 .exact aaf _ _
 split
 .exact aac _ _
 split
 .exact aag _ _
 .exact nj
def Xb(o:kq){l:List Iv}(hl:oO l){p:Nat}(hp:1<=p)(gS:p<=4096):(qv o l p).gQ:=by
 unfold qv;split
 .exact ag9 _ _ hp gS
 .exact W9 o (hl _) (by split;exact hl _;exact nj) hp gS
def AP(gI:List kq){xs:List Iv}(h:oO xs){p:Nat}(hp:1<=p)(gS:p<=4096):∀ k,oO (iC gI xs p k)
 | 0=>h
 |k+1=>(AP gI h hp gS k).push (Xb _ (AP gI h hp gS k) hp gS)
def Bb(t:lS)(xs:List Iv)(p:Nat):(nn t xs p).length=t.gN.length:=by simp[nn]
end Go.Proofs.YtkjkcjhacddojaaGreatDoor
namespace Go.Proofs.YtkjkcjhacddojaaGreatDoor.Pu
open Go.RowKit
def Vb{bs br:Nat->Prop}{w:World}{xs:List Value}{a:Value}(h:iz bs br w (.agg (xs.map E.v)) a):a = .agg xs.toArray:=by
 generalize he:E.agg (xs.map E.v)=e at h;cases h with
 |agg l vs hl k=>
  cases he;rw[cr]at hl;have:vs=xs:=fF λi=>by
   cases hx:xs[i]? with
   |none=>rw[List.getElem?_eq_none_iff]at hx ⊢;omega
   |some x=>
    obtain⟨v,hv⟩:∃ v,vs[i]? = some v:=by
     have hi:i<xs.length:=(cg.1 hx).1;exact⟨vs[i]'(aD),bt aD⟩
    rw[hv,iz.kE (k i (.v x) v (by rw[cD,hx];rfl) hv)]
  rw[this]
 |_=>cases he
def Lz{P:Program}{t:TypeId}{m D D':Nat}(hm:m<=10000)(hk:P.keyTypeAt m t=true)(hg:P.eqGuardType P.depth t=false){xs ys:List Value}{la lb:List Lit}
 (hx:P.keyLits D t xs=some la) (hy:P.keyLits D' t ys=some lb) (fx:(Value.agg xs.toArray).formed P t=true) (fy:(Value.agg ys.toArray).formed P t=true) {c:Bool} (hc:c=true↔la=lb):
 oN P .eql t (.agg (xs.map E.v)) (.agg (ys.map E.v)) (.bool c):=by
 intro bs br w a b ox oy ha hb;obtain rfl:=Vb ha;obtain rfl:=Vb hb;constructor
 .simp only[eqGuard,e8,b9,bF,Sem.run_bind,run_program,Result.andThen_ok,hg,eC,bI,Sem.run_pure]
 .obtain ⟨r,hr,abG⟩:=run_equalIn_deep (10000-m) m t hk w _ _ _ _ la lb fx fy (by simpa[Value.cells]using hx) (by simpa[Value.cells]using hy);rw[(aD:10000-m+m=10000)]at hr;have e:r=c:=by rw[dn,abG,hc]
  subst e;have:(Op.equal t (.agg xs.toArray) (.agg ys.toArray)).run P w = .ok r w:=hr;simp only[binOp,Sem.run_bind,this,Result.andThen_ok,Sem.run_pure]
end Go.Proofs.YtkjkcjhacddojaaGreatDoor.Pu
namespace Go.Proofs.YtkjkcjhacddojaaGreatDoor
open Go.RowKit Fp Pu
def Ta{t:TypeId}{m:Nat}(hm:m<=10000)(hk:prog.keyTypeAt m t=true)(hg:prog.eqGuardType prog.depth t=false){xs:List Value}(hx:(prog.keyLits 10 t xs).isSome=true)
 (fx:(Value.agg xs.toArray).formed prog t=true):oN prog .eql t (.agg (xs.map E.v)) (.agg (xs.map E.v)) (.bool true):=by
 obtain⟨l,hl⟩:=gn.1 hx;exact Lz hm hk hg hl hl fx fx aJ 
def GW{a b c d e f:Int}(h:a=0/\b=0/\c=0/\d=0/\e=0/\f=0):
 oN prog .eql 74 (.agg [iP a,iP b,iP c,iP d,iP e,iP f]) (.agg [iP 0,iP 0,iP 0,iP 0,iP 0,iP 0]) (.bool true):=by
 obtain⟨rfl,rfl,rfl,rfl,rfl,rfl⟩:=h;exact Ta (m:=10) (xs:=[.int .i64 0,.int .i64 0,.int .i64 0,.int .i64 0,.int .i64 0,.int .i64 0]) aF aG aG aG aG 
def Ly{a b:Int}(h:a=0/\b=0):oN prog .eql 72 (.agg [iP a,iP b]) (.agg [iP 0,iP 0]) (.bool true):=by
 obtain⟨rfl,rfl⟩:=h;exact Ta (m:=10) (xs:=[.int .i64 0,.int .i64 0]) aF aG aG aG aG 
def yz{d:Nat}{n:Int}(h:ko .i64 n):prog.keyLits (d+1) 3 [.int .i64 n]=some [.int .i64 n]:=by
 have hw:(Lit.int .i64 n).wf=true:=by
  unfold ko at h;simp[Lit.wf,IntKind.min,IntKind.max,IntKind.signed,IntKind.bits];omega
 unfold Program.keyLits;rw[underlying3];simp[hw]
def UD{a b:Int}(ha:ko .i64 a)(hb:ko .i64 b):prog.keyLits 10 72 [.int .i64 a,.int .i64 b]=some [.int .i64 a,.int .i64 b]:=by
 have c1:prog.cellsOf 72=2:= aG ;have c2:prog.cellsOf 3=1:= aG ;unfold Program.keyLits;rw[underlying72];simp[c1,c2,fg,yz ha,yz hb]
def S9{a b:Int}{r:Bool}(ha:ko .i64 a)(hb:ko .i64 b)(h:decide (a=0/\b=0)=r):oN prog .eql 72 (.agg [iP a,iP b]) (.agg [iP 0,iP 0]) (.bool r):=
 Lz (m:=10) (xs:=[.int .i64 a,.int .i64 b]) (ys:=[.int .i64 0,.int .i64 0]) aF aG aG (UD ha hb) (UD a6 a6) aG aG (by subst h;simp)
def ad8{a b c d e f a' b' c' d' e' f':Int}{r:Bool}(hx:prog.keyLits 10 74 [.int .i64 a,.int .i64 b,.int .i64 c,.int .i64 d,.int .i64 e,.int .i64 f]=some [.int .i64 a,.int .i64 b,.int .i64 c,.int .i64 d,.int .i64 e,.int .i64 f])(hy:prog.keyLits 10 74 [.int .i64 a',.int .i64 b',.int .i64 c',.int .i64 d',.int .i64 e',.int .i64 f']=some [.int .i64 a',.int .i64 b',.int .i64 c',.int .i64 d',.int .i64 e',.int .i64 f'])
 (fx:(Value.agg (List.toArray [.int .i64 a,.int .i64 b,.int .i64 c,.int .i64 d,.int .i64 e,.int .i64 f])).formed prog 74=true) (fy:(Value.agg (List.toArray [.int .i64 a',.int .i64 b',.int .i64 c',.int .i64 d',.int .i64 e',.int .i64 f'])).formed prog 74=true) (h:decide (a=a'/\b=b'/\c=c'/\d=d'/\e=e'/\f=f')=r):
 oN prog .eql 74 (.agg [iP a,iP b,iP c,iP d,iP e,iP f]) (.agg [iP a',iP b',iP c',iP d',iP e',iP f']) (.bool r):=
 Lz (m:=10) (xs:=[.int .i64 a,.int .i64 b,.int .i64 c,.int .i64 d,.int .i64 e,.int .i64 f]) (ys:=[.int .i64 a',.int .i64 b',.int .i64 c',.int .i64 d',.int .i64 e',.int .i64 f']) aF aG aG hx hy fx fy (by subst h;simp)
def ahn{P:Program}(w:World)(t tx ty e:TypeId)(i:TypeInfo)(z:Value)(ht:P.underlying t=some (.slice e))(hx:P.underlying tx=some (.int .i64))(hi:P.info? e=some i)(hz:i.zero=some z)
 (vY:i.size≠0) (n:Nat) (h0:0<n) (wX:n<=1000000) (PT:n*i.bytes<=281474976710656):
 (Builtin.append_ #[t,tx] ty #[.slice none 0 0,.int .i64 (n:Int)]).run P w =
  .ok (.slice (some ⟨w.heap.size,0,none⟩) n (grownCap w n 0 e)) (w.drew.alloc (.cells (Builtin.zeroCells z.cells n++Builtin.zeroCells z.cells (grownCap w n 0 e-n)) e)):=by
 have hn:n≠0:= aD ;have hns:n*i.size≠0:=ez hn vY;have abn:¬(9223372036854775807<(n:Int)):= aD ;have abl:¬(281474976710656<Builtin.nextslicecap n 0*i.bytes):=by rw[nextslicecap_zero h0];omega
 have hw:IntKind.i64.wrap (n:Int)=n:=i64_in _ aD aD;have Dc:¬((n:Int)<0):= aD ;have abm:¬(281474976710656<(n:Int)*(i.bytes:Int)):=by
  have:(n:Int)*(i.bytes:Int)=((n*i.bytes:Nat):Int):= aJ ;rw[this];omega
 simp[Builtin.append_,run_underlying ht,run_underlying hx,sizeOf,typeInfo,zeroValue,hi,hz,asInt,asIntOf,hw,Dc,abm,hn,hns,abn,abl,Question.forced,run_firstCells_none,newRow,grownCap]
def aje{P:Program}{w:World}{gI:Array Oper}{rest:List Oper}{o:Oper}{a:Act}{Q:Exit->Act->World->Prop}(zH:o.guard=none)(s x:Operand)(t tx:TypeId)
 (ho:o.op = .call { callee:=.builtin .append,args:=#[s,x],argTypes:=#[t,tx] })
 (e:TypeId) (i:TypeInfo) (z:Value) (ht:P.underlying t=some (.slice e)) (hx:P.underlying tx=some (.int .i64)) (hi:P.info? e=some i) (hz:i.zero=some z)
 (vY:i.size≠0) (n:Nat) (h0:0<n) (wX:n<=1000000) (PT:n*i.bytes<=281474976710656) (hs:a.eval s = .slice none 0 0) (hxx:a.eval x = .int .i64 (n:Int))
 (h:wpList P gI Q rest (a.put o.dst (.slice (some ⟨w.heap.size,0,none⟩) n (grownCap w n 0 e))) (w.drew.alloc (.cells (Builtin.zeroCells z.cells n++Builtin.zeroCells z.cells (grownCap w n 0 e-n)) e))):wpList P gI Q (o::rest) a w:=by
 refine wpList_plain zH λK hK=>?_
 have lB:=ahn (P:=P) w t tx o.type e i z ht hx hi hz vY n h0 wX PT;unfold Oper.wp;simp[execOp,ho,resolve,invoke,builtin,hs,hxx,lB,Result.andThen];exact hK _ _ h
def W5(w:World)(o:Obj):Below w.heap.size w (w.alloc o).drew:=⟨rfl,rfl,rfl,by rw[show(w.alloc o).drew.heap=w.heap.push o from rfl,dz];omega,λx hx=>Below.heap_alloc w _ x hx⟩
def W6(w:World)(o:Obj):w.heap.size<(w.alloc o).drew.heap.size:=by rw[show(w.alloc o).drew.heap=w.heap.push o from rfl,dz];omega
def ab4:(prog.info? 46).map (λi=>(i.zero,i.size,i.bytes))=some (some (.agg #[.bool false,.slice none 0 0,.int .i64 0,.bool false,.slice none 0 0,.int .i64 0,.bool false]),7,88):= aG 
def WK(n:Nat):∀ u,u ∈ Builtin.zeroCells (Value.cells (.agg #[.bool false,.slice none 0 0,.int .i64 0,.bool false,.slice none 0 0,.int .i64 0,.bool false])) n->rA u=false:=by
 intro u hu;simp only[Builtin.zeroCells,fI,fJ]at hu;obtain⟨q,hq,rfl⟩:=hu;have hc:Value.cells (.agg #[.bool false,.slice none 0 0,.int .i64 0,.bool false,.slice none 0 0,.int .i64 0,.bool false]) = #[.bool false,.slice none 0 0,.int .i64 0,.bool false,.slice none 0 0,.int .i64 0,.bool false]:=rfl;rw[hc]at hq ⊢;have hs:(#[Value.bool false,.slice none 0 0,.int .i64 0,.bool false,.slice none 0 0,.int .i64 0,.bool false]:Array Value).size=7:=rfl;rw[hs];have h7:q%7<7:=bA _ aF;generalize q%7=k at h7;rcases k with _|_|_|_|_|_|_|k
 all_goals first|rfl|omega
set_option maxRecDepth 100000 in
def abh(n:Nat)(hn:n<=1000000):tK prog Tb 239 [.v (.slice none 0 0),iP (n:Int)] true 46 0 7 (ja []):=by
 refine⟨call239,λw B vs hK hB hr=>?_⟩;obtain⟨v1,vs,rfl,h1,hr⟩:=hr.lV;obtain⟨v2,vs,rfl,h2,hr⟩:=hr.lV;obtain rfl:=hr.ph;obtain rfl:=iz.kE h1;obtain rfl:=iz.kE h2;show Calls _ _ #[.slice none 0 0,.int .i64 (n:Int)] w _;clear h1 h2 hr hB hK;by_cases h0:n=0
 .subst h0;go_enter func239,ntmps239;go_wp2;go_ret;exact⟨_,rfl,Below.refl _ _,λ_ _=>undef,.inl ⟨rfl,rfl⟩,λx hx=>by simp[Value.ownBlock]at hx,λi j hi=>absurd hi (bC _)⟩
 .obtain ⟨i,hi,hz,h1,h2⟩:=info_parts ab4;have hw:IntKind.i64.wrap ((n:Int)-0)=n:=i64_in _ aD aD;have Gq:IntKind.i64.wrap (n:Int)=n:=i64_in _ aD aD;have e2:decide ((n:Int)<0)=false:=bl aD;have e3:decide ((0:Int)<n)=true:=bk aD;have Bj:n<=grownCap w n 0 46:=grownCap_ge w n 0 _;go_enter func239,ntmps239;go_wp2_with (at_builtin;go_must (refine aje aI _ _ _ _ aI _ i _ underlying26 underlying3 hi hz aD n aD aD (by rw[h2];omega) aI aI ?_))
  go_ret;have hz7:(#[Value.bool false,.slice none 0 0,.int .i64 0,.bool false,.slice none 0 0,.int .i64 0,.bool false]:Array Value).size=7:=rfl;refine⟨_,rfl,W5 w _,λ_ _=>undef,.inr ⟨w.heap.size,grownCap w n 0 46,_,rfl,heap_alloc_new w _,b6 _,grownCap_le_maxLen w n 0 _ (by unfold maxLen;omega),?_,λi j hi=>absurd hi (bC _),λ_ u hu=>?_⟩,λx hx=>?_,λi j hi=>absurd hi (bC _)⟩
  .simp only[ajV,size_zeroCells,hz7,<-bT];congr 1;omega
  .rcases fc.1 hu with hu|hu
   .exact WK _ u hu
   .exact WK _ u hu
  .simp [Value.ownBlock]at hx;subst hx;exact⟨bp _,W6 w _⟩
abbrev EN(f:FuncId)(args:List E)(nl:Bool)(T:TypeId)(n sz:Nat)(el:Nat->Nat->E):Prop:=tK prog Tb f args nl T n sz el
def trn{f:FuncId}{fn:Func}{args:List E}{nl:Bool}{T0:TypeId}{n sz:Nat}{el:Nat->Nat->E}(vc:∀ (vs:Array Value) (w:World),(callFunc f vs).run prog w = .ok (.enter f vs) w)
 (hf:prog.funcs[f]? = some fn) (t:Tr prog Tb) (h:L7 TT fn args (.row nl T0 n sz el) t=t.ex λ_=>.a (Bx.le (.row nl T0 n sz el) (.row nl T0 n sz el)) .nil):EN f args nl T0 n sz el:=
 tK.MA zg mixed MU vc hf t h
def Wc(t:lS)(x:Nat):PS:=⟨46,true,[(28,.e (iP x)),(27,.e (iP t.gI.length)),(26,.e (mM t.gI)),(1,.box 1 0)],[(1,.cells 25 [iP t.gP,mM t.gI,mL t.gN])]⟩
def V7(s:lX)(x:Nat):PS:=⟨85,true,[(31,.e (iP x)),(30,.e (iP s.tape.gI.length)),(29,.e (mM s.tape.gI)),(3,.box 3 0),(1,.box 1 0)],[(3,.cells 25 [iP s.tape.gP,mM s.tape.gI,mL s.tape.gN]),(1,.cells 28 [iP s.tape.gP,mM s.tape.gI,mL s.tape.gN,iP s.ij,ic s.params])]⟩
def Th(k:Nat)(h1:3<=k)(h2:k<=6):gJ 287 [iP k] (iP 2):=
 aj call287 func287 (aa [ah 5 ((k:Int)==1) (a7 aD)]<|.w ((k:Int)=3)
  (λk1=>ae [tB 7 (a8 k1)])
  (λk1=>aa [tB 7 (a7 k1)]<|.w ((k:Int)=4)
   (λk2=>ae [tB 8 (a8 k2)])
   (λk2=>aa [tB 8 (a7 k2)]<|.w ((k:Int)=5)
    (λk3=>ae [tB 9 (a8 k3)])
    (λk3=>aa [tB 9 (a7 k3)]<|.w ((k:Int)=6)
     (λk4=>ae [tB 10 (a8 k4)])
     (λk4=>.x aD))))) 
def LC(k:Nat)(h1:7<=k)(h2:k<=13):gJ 287 [iP k] (iP 1):=
 aj call287 func287 (aa [ah 5 ((k:Int)==1) (a7 aD),ah 7 ((k:Int)==3) (a7 aD),ah 8 ((k:Int)==4) (a7 aD),ah 9 ((k:Int)==5) (a7 aD),ah 10 ((k:Int)==6) (a7 aD)]<|.w ((k:Int)=7)
  (λk1=>ae [tB 12 (a8 k1)])
  (λk1=>aa [tB 12 (a7 k1)]<|.w ((k:Int)=8)
   (λk2=>ae [tB 13 (a8 k2)])
   (λk2=>aa [tB 13 (a7 k2)]<|.w ((k:Int)=9)
    (λk3=>ae [tB 14 (a8 k3)])
    (λk3=>aa [tB 14 (a7 k3)]<|.w ((k:Int)=10)
     (λk4=>ae [tB 15 (a8 k4)])
     (λk4=>aa [tB 15 (a7 k4)]<|.w ((k:Int)=11)
      (λk5=>ae [tB 16 (a8 k5)])
      (λk5=>aa [tB 16 (a7 k5)]<|.w ((k:Int)=12)
       (λk6=>ae [tB 17 (a8 k6)])
       (λk6=>aa [tB 17 (a7 k6)]<|.w ((k:Int)=13)
        (λk7=>ae [tB 18 (a8 k7)])
        (λk7=>.x aD)))))))) 
def Tg(k:Nat)(h1:k=1):gJ 287 [iP k] (iP 0):=
 aj call287 func287 (ae [ag 5 ((k:Int)==1) (a8 aD)]) 
def ad9{a b:Int}(h:lv a b=true):oN prog .eql 72 (.agg [iP a,iP b]) (.agg [iP 0,iP 0]) (.bool false):=by
 obtain⟨h1,h2,h3,h4⟩:=Cb h;exact S9 a6 a6 (bl aD)
def mP.IS{o:kq}{m:Nat}(h:mP o m)(kx:o.kind≠1)(hk:o.kind<=6):3<=o.kind/\o.a<m/\o.b<m/\o.n=0/\o.cn=0/\o.cd=0:=by
 have h3:=h.k3.resolve_left kx;have ha:=h.a;have hb:=h.b;have hn:=h.n;have hc:=h.c;rw[bh kx]at ha hc;rw[bj ⟨h3,hk⟩]at hb;rw[bh aD]at hn;exact⟨h3,ha,hb,hn,hc.1,hc.2⟩
def mP.pow{o:kq}{m:Nat}(h:mP o m)(hk:o.kind=8):o.a<m/\o.b=0/\o.n<=16/\o.cn=0/\o.cd=0:=by
 have ha:=h.a;have hb:=h.b;have hn:=h.n;have hc:=h.c;rw[bh aD]at ha hb hc;rw[bj hk]at hn;exact⟨ha,hb,hn,hc.1,hc.2⟩
def mP.un{o:kq}{m:Nat}(h:mP o m)(hk:¬o.kind<=6)(sY:o.kind≠8):o.kind<=13/\o.a<m/\o.b=0/\o.n=0/\o.cn=0/\o.cd=0:=by
 have ha:=h.a;have hb:=h.b;have hn:=h.n;have hc:=h.c;rw[bh aD]at ha hb hc;rw[bh sY]at hn;exact⟨h.BI,ha,hb,hn,hc.1,hc.2⟩
def mP.num{o:kq}{m:Nat}(h:mP o m)(hk:o.kind=1):o.a=0/\o.b=0/\o.n=0/\lv o.cn o.cd=true:=by
 have ha:=h.a;have hb:=h.b;have hn:=h.n;have hc:=h.c;rw[bj hk]at ha hc;rw[bh aD]at hb hn;exact⟨ha,hb,hn,hc⟩
def mP.CC{o:kq}{m:Nat}(h:mP o m)(hk:o.kind≠1):o.a<m:=by
 have ha:=h.a;rwa[bh hk]at ha
def aeC(o:kq)(m:Nat)(h:mP o m)(hk:o.kind=1):gJ 324 [pN o,iP m] (bP true):=by
 obtain⟨h2,h3,h4,Bz⟩:=h.num hk;exact aj call324 func324 (ae [.c (Tg o.kind aD),ah 14 (decide ((0:Int)<0)) aF,ag 17 ((0:Int)==0) aF,.c (Hb o.cn o.cd),ag 20 (lv o.cn o.cd) Bz,ah 26 ((o.kind:Int)==8) (a7 aD),ah 37 (decide ((0:Int)<0)) aF,ah 49 (decide ((1:Int)<0)) aF,.g (GW ⟨aD,aD,aD,aD,aD,aD⟩:oN prog .eql 74 (.agg [iP 0,iP o.a,iP o.b,iP o.n,iP 0,iP 0]) (.agg [iP 0,iP 0,iP 0,iP 0,iP 0,iP 0]) (.bool true))]) 
def aeB(o:kq)(m:Nat)(h:mP o m)(kx:o.kind≠1)(hk:o.kind<=6):gJ 324 [pN o,iP m] (bP true):=by
 obtain⟨h1,h2,h3,h4,h5,h6⟩:=h.IS kx hk;exact aj call324 func324 (ae [.c (Th o.kind aD aD),ah 14 (decide ((2:Int)<0)) aF,ah 17 ((2:Int)==0) aF,ah 26 ((o.kind:Int)==8) (a7 aD),ag 37 (decide ((0:Int)<2)) aF,tF 40 ((o.a:Int)<0) aD,tF 45 ((m:Int)<=o.a) aD,ag 49 (decide ((1:Int)<2)) aF,tF 52 ((o.b:Int)<0) aD,tF 57 ((m:Int)<=o.b) aD,.g (GW ⟨aD,aD,aD,aD,aD,aD⟩:oN prog .eql 74 (.agg [iP 0,iP 0,iP 0,iP o.n,iP o.cn,iP o.cd]) (.agg [iP 0,iP 0,iP 0,iP 0,iP 0,iP 0]) (.bool true))]) 
def aeE(o:kq)(m:Nat)(h:mP o m)(hk:o.kind=8):gJ 324 [pN o,iP m] (bP true):=by
 obtain⟨h2,h3,h4,h5,h6⟩:=h.pow hk;exact aj call324 func324 (ae [.c (LC o.kind aD aD),ah 14 (decide ((1:Int)<0)) aF,ah 17 ((1:Int)==0) aF,ag 26 ((o.kind:Int)==8) (a8 aD),tF 29 ((o.n:Int)<0) aD,tF 33 (16<(o.n:Int)) aD,ag 37 (decide ((0:Int)<1)) aF,tF 40 ((o.a:Int)<0) aD,tF 45 ((m:Int)<=o.a) aD,ah 49 (decide ((1:Int)<1)) aF,.g (GW ⟨aD,aD,aD,aD,aD,aD⟩:oN prog .eql 74 (.agg [iP 0,iP 0,iP o.b,iP 0,iP o.cn,iP o.cd]) (.agg [iP 0,iP 0,iP 0,iP 0,iP 0,iP 0]) (.bool true))]) 
def aeF(o:kq)(m:Nat)(h:mP o m)(hk:¬o.kind<=6)(sY:o.kind≠8):gJ 324 [pN o,iP m] (bP true):=by
 obtain⟨h1,h2,h3,h4,h5,h6⟩:=h.un hk sY;exact aj call324 func324 (ae [.c (LC o.kind aD aD),ah 14 (decide ((1:Int)<0)) aF,ah 17 ((1:Int)==0) aF,ah 26 ((o.kind:Int)==8) (a7 aD),ag 37 (decide ((0:Int)<1)) aF,tF 40 ((o.a:Int)<0) aD,tF 45 ((m:Int)<=o.a) aD,ah 49 (decide ((1:Int)<1)) aF,.g (GW ⟨aD,aD,aD,aD,aD,aD⟩:oN prog .eql 74 (.agg [iP 0,iP 0,iP o.b,iP o.n,iP o.cn,iP o.cd]) (.agg [iP 0,iP 0,iP 0,iP 0,iP 0,iP 0]) (.bool true))]) 
def aic(o:kq)(m:Nat)(h:mP o m)(hk:o.kind=1):gJ 231 [pN o,iP m] (bP true):=by
 obtain⟨h2,h3,h4,Bz⟩:=h.num hk;exact aj call231 func231 (ae [tF 8 ((o.a:Int)<0) aD,tF 12 ((o.b:Int)<0) aD,.g (ad9 Bz:oN prog .eql 72 (.agg [iP o.cn,iP o.cd]) (.agg [iP 0,iP 0]) (.bool false)),ag 21 ((o.kind:Int)==1) (a8 aD),.c (Hb o.cn o.cd),ag 24 (lv o.cn o.cd) Bz,ag 28 ((o.a:Int)==0) (a8 aD),ag 33 ((o.b:Int)==0) (a8 aD),ag 38 ((o.n:Int)==0) (a8 aD)]) 
def aib(o:kq)(m:Nat)(h:mP o m)(kx:o.kind≠1)(hk:o.kind<=6):gJ 231 [pN o,iP m] (bP true):=by
 obtain⟨h1,h2,h3,h4,h5,h6⟩:=h.IS kx hk;exact aj call231 func231 (aa [tF 8 ((o.a:Int)<0) aD,tF 12 ((o.b:Int)<0) aD,.g (Ly ⟨aD,aD⟩:oN prog .eql 72 (.agg [iP o.cn,iP o.cd]) (.agg [iP 0,iP 0]) (.bool true)),ah 21 ((o.kind:Int)==1) (a7 aD)]<|.w ((o.kind:Int)=3)
  (λk1=>ae [tB 41 (a8 k1),tT 50 ((o.a:Int)<m) aD,tT 56 ((o.b:Int)<m) aD,ag 61 ((o.n:Int)==0) (a8 aD)])
  (λk1=>aa [tB 41 (a7 k1)]<|.w ((o.kind:Int)=4)
   (λk2=>ae [tB 42 (a8 k2),tT 50 ((o.a:Int)<m) aD,tT 56 ((o.b:Int)<m) aD,ag 61 ((o.n:Int)==0) (a8 aD)])
   (λk2=>aa [tB 42 (a7 k2)]<|.w ((o.kind:Int)=5)
    (λk3=>ae [tB 43 (a8 k3),tT 50 ((o.a:Int)<m) aD,tT 56 ((o.b:Int)<m) aD,ag 61 ((o.n:Int)==0) (a8 aD)])
    (λk3=>aa [tB 43 (a7 k3)]<|.w ((o.kind:Int)=6)
     (λk4=>ae [tB 44 (a8 k4),tT 50 ((o.a:Int)<m) aD,tT 56 ((o.b:Int)<m) aD,ag 61 ((o.n:Int)==0) (a8 aD)])
     (λk4=>.x aD))))) 
def aie(o:kq)(m:Nat)(h:mP o m)(hk:o.kind=8):gJ 231 [pN o,iP m] (bP true):=by
 obtain⟨h2,h3,h4,h5,h6⟩:=h.pow hk;exact aj call231 func231 (ae [tF 8 ((o.a:Int)<0) aD,tF 12 ((o.b:Int)<0) aD,.g (Ly ⟨aD,aD⟩:oN prog .eql 72 (.agg [iP o.cn,iP o.cd]) (.agg [iP 0,iP 0]) (.bool true)),ah 21 ((o.kind:Int)==1) (a7 aD),ah 41 ((o.kind:Int)==3) (a7 aD),ah 42 ((o.kind:Int)==4) (a7 aD),ah 43 ((o.kind:Int)==5) (a7 aD),ah 44 ((o.kind:Int)==6) (a7 aD),ag 64 ((o.kind:Int)==8) (a8 aD),tT 70 ((o.a:Int)<m) aD,ag 75 ((o.b:Int)==0) (a8 aD),tT 80 (0<=(o.n:Int)) aD,tT 85 ((o.n:Int)<=16) aD]) 
def aif(o:kq)(m:Nat)(h:mP o m)(hk:¬o.kind<=6)(sY:o.kind≠8):gJ 231 [pN o,iP m] (bP true):=by
 obtain⟨h1,h2,h3,h4,h5,h6⟩:=h.un hk sY;exact aj call231 func231 (aa [tF 8 ((o.a:Int)<0) aD,tF 12 ((o.b:Int)<0) aD,.g (Ly ⟨aD,aD⟩:oN prog .eql 72 (.agg [iP o.cn,iP o.cd]) (.agg [iP 0,iP 0]) (.bool true)),ah 21 ((o.kind:Int)==1) (a7 aD),ah 41 ((o.kind:Int)==3) (a7 aD),ah 42 ((o.kind:Int)==4) (a7 aD),ah 43 ((o.kind:Int)==5) (a7 aD),ah 44 ((o.kind:Int)==6) (a7 aD),ah 64 ((o.kind:Int)==8) (a7 aD)]<|.w ((o.kind:Int)=7)
  (λk1=>ae [tB 88 (a8 k1),tT 99 ((o.a:Int)<m) aD,ag 104 ((o.b:Int)==0) (a8 aD),ag 109 ((o.n:Int)==0) (a8 aD)])
  (λk1=>aa [tB 88 (a7 k1)]<|.w ((o.kind:Int)=9)
   (λk2=>ae [tB 89 (a8 k2),tT 99 ((o.a:Int)<m) aD,ag 104 ((o.b:Int)==0) (a8 aD),ag 109 ((o.n:Int)==0) (a8 aD)])
   (λk2=>aa [tB 89 (a7 k2)]<|.w ((o.kind:Int)=10)
    (λk3=>ae [tB 90 (a8 k3),tT 99 ((o.a:Int)<m) aD,ag 104 ((o.b:Int)==0) (a8 aD),ag 109 ((o.n:Int)==0) (a8 aD)])
    (λk3=>aa [tB 90 (a7 k3)]<|.w ((o.kind:Int)=11)
     (λk4=>ae [tB 91 (a8 k4),tT 99 ((o.a:Int)<m) aD,ag 104 ((o.b:Int)==0) (a8 aD),ag 109 ((o.n:Int)==0) (a8 aD)])
     (λk4=>aa [tB 91 (a7 k4)]<|.w ((o.kind:Int)=12)
      (λk5=>ae [tB 92 (a8 k5),tT 99 ((o.a:Int)<m) aD,ag 104 ((o.b:Int)==0) (a8 aD),ag 109 ((o.n:Int)==0) (a8 aD)])
      (λk5=>aa [tB 92 (a7 k5)]<|.w ((o.kind:Int)=13)
       (λk6=>ae [tB 93 (a8 k6),tT 99 ((o.a:Int)<m) aD,ag 104 ((o.b:Int)==0) (a8 aD),ag 109 ((o.n:Int)==0) (a8 aD)])
       (λk6=>.x aD))))))) 
def aeD(o:kq)(m:Nat)(h:mP o m):gJ 324 [pN o,iP (m:Int)] (bP true):=by
 by_cases kx:o.kind=1
 .exact aeC o m h kx
 by_cases hk:o.kind<=6
 .exact aeB o m h kx hk
 .by_cases sY:o.kind=8
  .exact aeE o m h sY
  .exact aeF o m h hk sY
def aid(o:kq)(m:Nat)(h:mP o m):gJ 231 [pN o,iP (m:Int)] (bP true):=by
 by_cases kx:o.kind=1
 .exact aic o m h kx
 by_cases hk:o.kind<=6
 .exact aib o m h kx hk
 .by_cases sY:o.kind=8
  .exact aie o m h sY
  .exact aif o m h hk sY
def aiy(t:lS)(k:Nat)(hk:k<t.gP+t.gI.length)(h8:t.gP<=8)(abk:t.gI.length<=200):gJ 325 [iP k,(.jN 3 λj_=>[iP t.gP,mM t.gI,mL t.gN].getD j_ .any)] (bP false):=
 aj call325 func325 (ae [tF 5 ((k:Int)<0) aD,gW ((t.gP:Int)+t.gI.length) aD,tF 14 (((t.gP+t.gI.length:Nat):Int)<=k) aD]) 
def Wd(t:lS)(h:uQ t):gJ 285 [tE t] (bP true):=by
 have h8:=h.gP;have xk:=h.gI;have mU:=h.gN;exact aj call285 func285 (ae [tF 7 ((t.gP:Int)<0) aD,tF 11 (8<(t.gP:Int)) aD,tF 17 (200<(t.gI.length:Int)) aD,tF 23 (200<(t.gN.length:Int)) aD,.s (Sp.iG (Wc t) 0 t.gI.length aD (λx hx jf=>by
    have im:=h.op x aD;exact gX (ae [tT 29 ((x:Int)<t.gI.length) aD,iX (x:Int) (t.gI.length) aD,gW ((t.gP:Int)+x) aD,af [pN (t.gI.getD x ig),iP ((t.gP+x:Nat):Int)] (aeD _ _ im),gW ((x:Int)+1) aD]) aG)
  (λhx=>by
    exact gX (ae [tF 29 ((t.gI.length:Int)<t.gI.length) aD]) aG) aK:iF 4 f285 (Wc t 0) (.exit 0) ⟨46,true,[(1,.box 1 0)],[(1,.cells 25 [iP t.gP,mM t.gI,mL t.gN])]⟩) .nil,.c (KQ true _ _ 325 [(.jN 3 λj_=>[iP t.gP,mM t.gI,mL t.gN].getD j_ .any)] (λ_=>false) (λi hi=>aiy t _ (h.out i hi) h8 xk) aD (λ_ _=>rfl):gJ 232 [mL t.gN,.fn 325 [(.jN 3 λj_=>[iP t.gP,mM t.gI,mL t.gN].getD j_ .any)]] _)]) 
def aii(t:lS)(k:Nat)(hk:k<t.gP+t.gI.length)(h8:t.gP<=8)(abk:t.gI.length<=200):gJ 233 [iP k,(.jN 3 λj_=>[iP t.gP,mM t.gI,mL t.gN].getD j_ .any)] (bP false):=
 aj call233 func233 (ae [tF 5 ((k:Int)<0) aD,gW ((t.gP:Int)+t.gI.length) aD,tF 14 (((t.gP+t.gI.length:Nat):Int)<=k) aD]) 
def aik(x:Iv)(hx:x.gQ)(xa:x.all=false):gJ 234 [gR x] (bP false):=by
 obtain⟨w1,w2,w3⟩:=oB hx xa;exact aj call234 func234 (ae [ah 4 x.all xa,af [gM x.lo] (rS _ aE),af [gM x.hi] (rS _ aE),af [gM x.lo,gM x.hi] (nT _ _ aE aE),tF 23 (0<(jh x.lo x.hi)) aD]) 
def H9(s:lX)(h:og s):gJ 157 [lq s] (bP true):=by
 have h8:=h.tape.gP;have xk:=h.tape.gI;have mU:=h.tape.gN;have s1:=h.s1;have s4:=h.s4;have ho:=h.gN;have hi:=h.gP;have p4:=h.p4;exact aj call157 func157 (ae [tF 10 ((s.tape.gP:Int)<0) aD,tF 14 (8<(s.tape.gP:Int)) aD,tF 20 (200<(s.tape.gI.length:Int)) aD,tF 26 (200<(s.tape.gN.length:Int)) aD,.s (Sp.iG (V7 s) 0 s.tape.gI.length aD (λx hx jf=>by
    have im:=h.tape.op x aD;exact gX (ae [tT 32 ((x:Int)<s.tape.gI.length) aD,iX (x:Int) (s.tape.gI.length) aD,gW ((s.tape.gP:Int)+x) aD,af [pN (s.tape.gI.getD x ig),iP ((s.tape.gP+x:Nat):Int)] (aid _ _ im),gW ((x:Int)+1) aD]) aG)
  (λhx=>by
    exact gX (ae [tF 32 ((s.tape.gI.length:Int)<s.tape.gI.length) aD]) aG) aK:iF 5 f157 (V7 s 0) (.exit 0) ⟨85,true,[(3,.box 3 0),(1,.box 1 0)],[(3,.cells 25 [iP s.tape.gP,mM s.tape.gI,mL s.tape.gN]),(1,.cells 28 [iP s.tape.gP,mM s.tape.gI,mL s.tape.gN,iP s.ij,ic s.params])]⟩) .nil,.c (KQ true _ _ 233 [(.jN 3 λj_=>[iP s.tape.gP,mM s.tape.gI,mL s.tape.gN].getD j_ .any)] (λ_=>false) (λi hi=>aii s.tape _ (h.tape.out i hi) h8 xk) aD (λ_ _=>rfl):gJ 232 [mL s.tape.gN,.fn 233 [(.jN 3 λj_=>[iP s.tape.gP,mM s.tape.gI,mL s.tape.gN].getD j_ .any)]] _),tF 50 ((s.ij:Int)<1) aD,tF 54 (4<(s.ij:Int)) aD,ah 62 ((s.tape.gN.length:Int) != (s.ij:Int)) (pK aD),
  gW ((s.ij:Int)+s.params.length) aD,ah 73 ((s.tape.gP:Int) != ((s.ij+s.params.length:Nat):Int)) (pK aD),tF 79 (4<(s.params.length:Int)) aD,.c (Ab true _ _ 234 [] (λ_=>false) (λi hi=>aik _ (h.params i hi).1 (h.params i hi).2) aD (λ_ _=>rfl):gJ 40 [ic s.params,.fn 234 []] _)]) 
def NI{nl:Bool}{T n n' sz:Nat}{f g h:Nat->Nat->E}(hn:n=n')(hh:∀ i j,i<n->j<sz->g i j=h i j/\(h i j).nr 2=true):Bx.le (.row nl T (0+n) sz λi j=>if i<0 then f i j else g (i-0) j) (.row nl T n' sz h):=
 .row aD λi j hi hj=>by
  have lL:i<n:= aD ;simp only[bC,bF,du];exact⟨.iD (hh i j lL hj).1,(hh i j lL hj).2⟩
def Xi(r:List Iv)(h0:0<r.length)(hl:r.length<=1000):EN 63 [ic r] true 46 r.length 7 (ja r):=
 trn call63 func63 (aa [.a (aD:0<r.length),.bo,.a (aD:(0+r.length)*88<=140737488355328)]<|.rb (NI rfl λi j hi hj=>⟨rfl,yA _ _ hj⟩:Bx.le (.row true 46 (0+r.length) 7 (λi_ j_=>if i_<0 then(λi_ j_=>([]:List E).getD (i_*7+j_) (.v (.bool false))) i_ j_ else(E.ke (ic r)) (i_-0) j_)) (.row true 46 r.length 7 (ja r)))) aG 
def ED{T n n' x:Nat}{t:lS}{xs:List Iv}{p:Nat}{y:Iv}(hn:n=(iC t.gI xs p x).length)(qX:n'=(iC t.gI xs p (x+1)).length)(hy:qv (t.gI.getD x ig) (iC t.gI xs p x) p=y):
 Bx.le (.row true T (n+[y].length) 7 λi j=>if i<n then ja (iC t.gI xs p x) i j else(E.ke (ic [y])) (i-n) j) (.row true T n' 7 (ja (iC t.gI xs p (x+1)))):=by
 subst qX hy;exact KW hn
def GY{o:kq}{m:Nat}(h:mP o m):o.n<=16:=by
 have:=h.n;split at this<;>omega
def nC(m:List (List Iv)):Nat->List Iv
 | 0=>[]
 |k+1=>nC m k++m.getD k []
def I2(m:List (List Iv))(k:Nat):(nC m (k+1)).length=(nC m k).length+(m.getD k []).length:=by simp[nC]
def acw{T n n':Nat}{xs r:List Iv}(hn:n=xs.length)(qX:n'=(xs++r).length):Bx.le (.row true T (n+r.length) 7 λi j=>if i<n then ja xs i j else(E.ke (ic r)) (i-n) j) (.row true T n' 7 (ja (xs++r))):=by
 subst hn qX;refine .row aJ λi j hi hj=>⟨.iD ?_,yA _ _ hj⟩
 by_cases h:i<xs.length
 .rw [bj h];show(iA (xs.getD i gL)).getD j .any=(iA ((xs++r).getD i gL)).getD j .any;congr 2;simp[bn,en h]
 .rw [bh h];show(iA (r.getD (i-xs.length) gL)).getD j .any=(iA ((xs++r).getD i gL)).getD j .any;congr 2;simp[bn,eD (aD:xs.length<=i)]
def GD(a b:List Iv):E.le (.sl true 2 1 λi j=>[ic a,ic b].getD (i*1+j) (.v (.bool false))) (gV [a,b]):=.sl λi j hi hj=>by
 obtain rfl:j=0:= aD ;obtain rfl|rfl:i=0\/i=1:= aD 
 all_goals exact⟨.refl _,rfl⟩
def NO(m:List (List Iv))(x:Nat):PS:=⟨36,true,[(11,.e (iP x)),(10,.e (iP m.length)),(9,.e (gV m)),(3,.e (iP ((nC m x).length:Int))),(0,.e (gV m))],[]⟩
def NP(m:List (List Iv))(x:Nat):PS:=⟨36,true,[(27,.e (iP x)),(26,.e (iP m.length)),(25,.e (gV m)),(6,.own 24)],[(24,.row true 46 ((nC m x).length) 7 (ja (nC m x)))]⟩
def Yr(m:List (List Iv))(hl:m.length<=1000)(hb:∀ k,k<=m.length->(nC m k).length<=1000):gJ 162 [gV m] (ic (nC m m.length)):=by
 have qA:=hb m.length (bp _);exact aj call162 func162 (ae [.s (Sp.iG (NO m) 0 m.length aD (λx hx jf=>by
    have kJ:=hb (x+1) aD;rw[I2]at kJ;exact gX (aa [tT 12 ((x:Int)<m.length) aD,iX (x:Int) (m.length) aD,gW (((nC m x).length:Int)+((m.getD x []).length:Int)) aD,tF 20 ((((nC m x).length+(m.getD x []).length:Nat):Int)<0) aD,gW ((x:Int)+1) aD]<|.e (ae [.o 3 (an (((nC m x).length+(m.getD x []).length:Nat):Int) ((nC m (x+1)).length:Int) (by rw[I2]))])) aG)
  (λhx=>by
    exact gX (ae [tF 12 ((m.length:Int)<m.length) aD]) aG) aK:iF 3 f162 (NO m 0) (.exit 0) ⟨36,true,[(3,.e (iP ((nC m m.length).length:Int))),(0,.e (gV m))],[]⟩) (ae [.o 3 (an 0 ((nC m 0).length:Int) rfl)]),.cn (abh _ aD:EN 239 [.v (.slice none 0 0),iP ((nC m m.length).length:Int)] true 46 0 7 (ja [])),.s (Sp.iG (NP m) 0 m.length aD (λx hx jf=>by
    have kJ:=hb (x+1) aD;rw[I2]at kJ;exact gX (aa [tT 28 ((x:Int)<m.length) aD,iX (x:Int) (m.length) aD,.a (aD:((nC m x).length+(m.getD x []).length)*88<=140737488355328),gW ((x:Int)+1) aD]<|.e (ae [.b 24 (acw rfl rfl:Bx.le (.row true 46 ((nC m x).length+(m.getD x []).length) 7 (λi_ j_=>if i_<(nC m x).length then(ja (nC m x)) i_ j_ else(E.ke (ic (m.getD x []))) (i_-(nC m x).length) j_)) (.row true 46 ((nC m (x+1)).length) 7 (ja (nC m (x+1)))))])) aG)
  (λhx=>by
    exact gX (aa [tF 28 ((m.length:Int)<m.length) aD,.z 24]<|.e (ae [.o 6 (.e (sC aJ):ai (.sl true ((nC m m.length).length) 7 (ja (nC m m.length))) (ic (nC m m.length)))])) aG) aK:iF 11 f162 (NP m 0) (.exit 2) ⟨36,true,[(6,.e (ic (nC m m.length)))],[]⟩) (ae [.b 24 (.iD rfl:Bx.le (.row true 46 0 7 (ja [])) (.row true 46 ((nC m 0).length) 7 (ja (nC m 0))))])]) 
def I5(a b:List Iv)(ha:a.length<=400)(hb:b.length<=400):gJ 162 [gV [a,b]] (ic (a++b)):=by
 have e1:nC [a,b] 1=a:=rfl;have e2:nC [a,b] 2=a++b:=rfl;have:=Yr [a,b] aJ λk hk=>by
  have hk:k<=2:=hk;rcases k with _|_|_|k
  .exact b6 _
  .rw [e1];omega
  .rw [e2,cv];omega
  .omega
 rwa[show[a,b].length=2 from rfl,e2]at this
def CX(p:Int):gJ 160 [iP p] (bP (jV p)):=
 aj call160 func160 (.w (8<=p)
  (λk1=>aa [tB 4 (bk k1)]<|rQ (bP (decide (p<=512))) (bP (jV p)) (by unfold jV;simp[k1]))
  (λk1=>aa [tB 4 (bl k1)]<|rQ (bP false) (bP (jV p)) (by unfold jV;simp[k1]))) 
def aaC(x:Iv)(hx:x.gQ):gJ 286 [gR x] (bP false):=
 aj call286 func286 (ae [.c (vq x aE)]) 
def aaD(t:lS)(xs:List Iv)(p:Nat)(h:uQ t)(h1:1<=xs.length)(hx:xs.length=t.gP)(hv:oO xs)(ie:8<=p)(gS:p<=512):gJ 236 [tE t,ic xs,iP p] (bP true):=by
 have h8:=h.gP;exact aj call236 func236 (ae [.c (Wd t aE),ag 14 ((xs.length:Int)==t.gP) (DY hx),.c (CX (p:Int)),ag 18 (jV (p:Int)) (mm.2 ⟨aD,aD⟩),.c (Ab true _ _ 286 [] (λ_=>false) (λi hi=>aaC _ (hv i)) aD (λ_ _=>rfl):gJ 40 [ic xs,.fn 286 []] _)]) 
def Pq(t:lS)(xs:List Iv)(p:Nat):(List.range t.gN.length).map (λj=>(iC t.gI xs p t.gI.length).getD (t.gN.getD j 0) gL)=nn t xs p:=by
 unfold nn;apply fF;intro i;rw[cD,cD];by_cases hi:i<t.gN.length
 .rw [bt (by simpa using hi),bt hi];simp[bn,hi]
 .rw [bR (by simpa using hi),bR aD];rfl
def aaw(x:Iv):gJ 235 [gR x] (bP x.all):=
 aj call235 func235 (.nil) 
def wV(l:List Iv)(hl:l.length<=1000):gJ 158 [ic l] (bP (mI l)):=
 aj call158 func158 (ae [.c (yB true _ _ 235 [] (λi=>(l.getD i gL).all) (λi hi=>aaw _) aD:gJ 40 [ic l,.fn 235 []] _)]) 
def FK(x:Iv)(hx:x.gQ):gJ 159 [gR x] (bP false):=
 aj call159 func159 (ae [.c (vq x aE)]) 
def GL{l:List Iv}(h:CB l):mI l=false:=by
 unfold mI;rw[c9];intro i hi;rw[(h i (bD.1 hi)).2];decide
def zn{s:lX}{b:List Iv}(h:og s)(hb:oM s.ij b):uQ s.tape/\1<=(b++s.params).length/\(b++s.params).length=s.tape.gP/\oO (b++s.params):=by
 have h1:=h.s1;have h2:=h.gP;have h3:=hb.len;refine⟨h.tape,?_,?_,hb.ok.WB.append h.params.WB⟩
 .rw [cv];omega
 .rw [cv];omega
def Ve(b:RI):E.le (.sl true 1 7 λi j=>(sK b).getD (i*7+j) (.v (.bool false))) (jk [b]):=.sl λi j hi hj=>by
 obtain rfl:i=0:= aD ;rcases j with _|_|_|_|_|_|_|j
 all_goals first|exact⟨.refl _,rfl⟩|omega
structure mQ where
 kind:Int
 a:Int
 b:Int
 n:Int
 cn:Int
 cd:Int
structure jq where
 gP:Int
 gI:List mQ
 gN:List Int
 ij:Int
 params:List RI
def iU:mQ:=⟨0,0,0,0,0,0⟩
def xI(o:mQ):List E:=[iP o.kind,iP o.a,iP o.b,iP o.n,iP o.cn,iP o.cd]
def qq(o:mQ):E:=.agg (xI o)
def jC(l:List mQ):E:=.sl true l.length 6 λi j=>(xI (l.getD i iU)).getD j .any
def jG(l:List Int):E:=.sl true l.length 1 λi _=>iP (l.getD i 0)
def Mk(s:jq):List E:=[iP s.gP,jC s.gI,jG s.gN,iP s.ij,jk s.params]
def jW(s:jq):E:=.agg (Mk s)
structure mQ.jo(o:mQ):Prop where
 kind:ko .i64 o.kind
 a:ko .i64 o.a
 b:ko .i64 o.b
 n:ko .i64 o.n
 cn:ko .i64 o.cn
 cd:ko .i64 o.cd
structure jq.jo(s:jq):Prop where
 gP:ko .i64 s.gP
 gI:∀ i,(s.gI.getD i iU).jo
 gN:∀ i,ko .i64 (s.gN.getD i 0)
 ij:ko .i64 s.ij
 params:∀ i,(s.params.getD i iR).jo
structure jq.mo(s:jq):Prop where
 gI:s.gI.length<=1000
 gN:s.gN.length<=1000
 params:s.params.length<=1000
def jz(o:mQ)(m:Int):Bool:=
 if o.kind=1 then lv o.cn o.cd&&decide (o.a=0/\o.b=0/\o.n=0)
 else if 3<=o.kind/\o.kind<=6 then decide (o.cn=0/\o.cd=0/\0<=o.a/\o.a<m/\0<=o.b/\o.b<m/\o.n=0)
 else if o.kind=8 then decide (o.cn=0/\o.cd=0/\0<=o.a/\o.a<m/\o.b=0/\0<=o.n/\o.n<=16)
 else if o.kind=7\/9<=o.kind/\o.kind<=13 then decide (o.cn=0/\o.cd=0/\0<=o.a/\o.a<m/\o.b=0/\o.n=0)
 else false
def En(s:jq):Bool:=(List.range s.gI.length).all λi=>jz (s.gI.getD i iU) (s.gP+(i:Int))
def uD(s:jq)(k:Int):Bool:=decide (0<=k/\k<s.gP+(s.gI.length:Int))
def uI(s:jq):Bool:=(List.range s.gN.length).all λi=>uD s (s.gN.getD i 0)
noncomputable def n6(x:RI):Bool:=ki x && !x.all
noncomputable def Cl(s:jq):Bool:=(List.range s.params.length).all λi=>n6 (s.params.getD i iR)
noncomputable def my(s:jq):Bool:=decide (0<=s.gP/\s.gP<=8/\s.gI.length<=200/\s.gN.length<=200)&&En s&&uI s
 && decide (1<=s.ij/\s.ij<=4/\(s.gN.length:Int)=s.ij/\s.gP=s.ij+(s.params.length:Int)/\s.params.length<=4)&&Cl s
noncomputable def vP(n:Int)(b:List RI):Bool:=decide ((b.length:Int)=n)&&(List.range b.length).all λi=>n6 (b.getD i iR)
noncomputable def Hp(d:RD):Bool:=@decide d.Ok (Classical.propDecidable _)
def Cg{d:RD}:Hp d=true↔d.Ok:=@gy _ (Classical.propDecidable _)
def xV{n:Nat}{f:Nat->Bool}(h:¬(List.range n).all f=true):∃ N,N<n/\(!f N)=true/\∀ k,k<N->(!f k)=false:=by
 refine pX ?_;apply bY;intro q;apply h;refine bS.2 λi hi=>?_
 cases hf:f i with
 |true=>rfl
 |false=>exact absurd ⟨i,bD.1 hi,by rw[hf];rfl⟩ q
def M4{n:Nat}{f:Nat->Bool}:((List.range n).any λi=>!f i) = !((List.range n).all f):=by
 rw[dn];simp
def ag7{s:jq}(h:¬(0<=s.gP/\s.gP<=8/\s.gI.length<=200/\s.gN.length<=200/\1<=s.ij/\s.ij<=4/\(s.gN.length:Int)=s.ij/\s.params.length<=4/\s.gP=s.ij+(s.params.length:Int))):my s=false:=by
 refine bc λq=>h ?_
 unfold my at q;simp only[bQ,cF]at q;obtain⟨⟨⟨⟨a,_⟩,_⟩,b⟩,_⟩:=q;exact⟨a.1,a.2.1,a.2.2.1,a.2.2.2,b.1,b.2.1,b.2.2.1,b.2.2.2.2,b.2.2.2.1⟩
def mQ.v(o:mQ):kq:=⟨o.kind.toNat,o.a.toNat,o.b.toNat,o.n.toNat,o.cn,o.cd⟩
def jq.v(s:jq):lX:=⟨⟨s.gP.toNat,s.gI.map mQ.v,s.gN.map Int.toNat⟩,s.ij.toNat,s.params.map RI.iv⟩
def mP.of{k a b n m:Nat}{cn cd:Int}(k3:k=1\/3<=k)(BI:k<=13)(ha:k=1->a=0)(Bg:¬k=1->a<m)(hb:3<=k/\k<=6->b<m)(mf:¬(3<=k/\k<=6)->b=0)
 (hn:k=8->n<=16) (qX:¬k=8->n=0) (hc:k=1->lv cn cd=true) (w9:¬k=1->cn=0/\cd=0):mP ⟨k,a,b,n,cn,cd⟩ m:=by
 refine⟨k3,BI,?_,?_,?_,?_⟩
 .show if k=1 then a=0 else a<m
  split<;>simp_all
 .show if 3<=k/\k<=6 then b<m else b=0
  split
  .rename_i h;exact hb h
  .rename_i h;exact mf h
 .show if k=8 then n<=16 else n=0
  split
  .rename_i h;exact hn h
  .rename_i h;exact qX h
 .show if k=1 then lv cn cd=true else cn=0/\cd=0
  split
  .rename_i h;exact hc h
  .rename_i h;exact w9 h
def agW{o:mQ}{m:Nat}(h:jz o (m:Int)=true):mP o.v m/\0<=o.kind/\0<=o.a/\0<=o.b/\0<=o.n:=by
 obtain⟨k,a,b,n,cn,cd⟩:=o;unfold jz at h;simp only at h;show mP ⟨k.toNat,a.toNat,b.toNat,n.toNat,cn,cd⟩ m/\0<=k/\0<=a/\0<=b/\0<=n;split at h
 .rename_i hk;rw[bQ,cF]at h;obtain⟨hr,h1,h2,h3⟩:=h;exact⟨mP.of aD aD aD aD aD aD aD aD (λ_=>hr) aD,aD,aD,aD,aD⟩
 .rename_i kx;split at h
  .rename_i hk;have h:=cK h;exact⟨mP.of aD aD aD aD aD aD aD aD aD aD,aD,aD,aD,aD⟩
  .split at h
   .rename_i hk;have h:=cK h;exact⟨mP.of aD aD aD aD aD aD aD aD aD aD,aD,aD,aD,aD⟩
   .split at h
    .rename_i sY hk;have h:=cK h;exact⟨mP.of aD aD aD aD aD aD aD aD aD aD,aD,aD,aD,aD⟩
    .cases h
def agY{o:mQ}(h1:0<=o.kind)(h2:0<=o.a)(h3:0<=o.b)(h4:0<=o.n):BT o.v=xI o:=by
 obtain⟨k,a,b,n,cn,cd⟩:=o;simp only[BT,xI,mQ.v]at *
 rw[eK h1,eK h2,eK h3,eK h4]
def ag8{s:jq}(g:s.jo)(h:my s=true):og s.v/\jW s=lq s.v:=by
 unfold my at h;simp only[bQ,cF]at h;obtain⟨⟨⟨⟨⟨i0,i8,l1,l2⟩,ho⟩,hu⟩,s1,s4,e1,e2,p4⟩,hp⟩:=h;have ho:=bS.1 ho;have hu:=bS.1 hu;have hp:=bS.1 hp;have opAt:∀ i,i<s.gI.length->(s.gI.map mQ.v).getD i ig=(s.gI.getD i iU).v:=λi hi=>by simp[bn,hi]
 have ouAt:∀ i,i<s.gN.length->(s.gN.map Int.toNat).getD i 0=(s.gN.getD i 0).toNat:=λi hi=>by simp[bn,hi]
 have paAt:∀ i,i<s.params.length->(s.params.map RI.iv).getD i gL=(s.params.getD i iR).iv:=λi hi=>by simp[bn,hi]
 have op:∀ i,i<s.gI.length->mP (s.gI.getD i iU).v (s.gP.toNat+i)/\0<=(s.gI.getD i iU).kind/\0<=(s.gI.getD i iU).a/\0<=(s.gI.getD i iU).b/\0<=(s.gI.getD i iU).n:=λi hi=>by
  have:=ho i (bD.2 hi);exact agW (by rwa[show((s.gP.toNat+i:Nat):Int)=s.gP+(i:Int)by omega])
 have ou:∀ i,i<s.gN.length->0<=s.gN.getD i 0/\s.gN.getD i 0<s.gP+(s.gI.length:Int):=λi hi=>cK (hu i (bD.2 hi))
 have pa:∀ i,i<s.params.length->(s.params.getD i iR).Ok/\(s.params.getD i iR).all=false:=λi hi=>by
  have:=hp i (bD.2 hi);unfold n6 at this;rw[bQ]at this;exact⟨pM.1 this.1,by simpa using this.2⟩
 refine⟨⟨⟨?_,?_,?_,?_,?_⟩,?_,?_,?_,?_,?_,?_⟩,?_⟩
 .show s.gP.toNat<=8;omega
 .show (s.gI.map mQ.v).length<=200;rw[cr];exact l1
 .show (s.gN.map Int.toNat).length<=200;rw[cr];exact l2
 .intro i hi;have hi:i<s.gI.length:=by simpa[jq.v]using hi
  show mP ((s.gI.map mQ.v).getD i ig) (s.gP.toNat+i);rw[opAt i hi];exact(op i hi).1
 .intro i hi;have hi:i<s.gN.length:=by simpa[jq.v]using hi
  show(s.gN.map Int.toNat).getD i 0<s.gP.toNat+(s.gI.map mQ.v).length;rw[ouAt i hi,cr];have:=ou i hi;omega
 .show 1<=s.ij.toNat;omega
 .show s.ij.toNat<=4;omega
 .show (s.gN.map Int.toNat).length=s.ij.toNat;rw[cr];omega
 .show s.gP.toNat=s.ij.toNat+(s.params.map RI.iv).length;rw[cr];omega
 .show (s.params.map RI.iv).length<=4;rw[cr];exact p4
 .intro i hi;have hi:i<s.params.length:=by simpa[jq.v]using hi
  show((s.params.map RI.iv).getD i gL).gQ/\((s.params.map RI.iv).getD i gL).all=false;rw[paAt i hi];exact⟨(pa i hi).1.valid,(pa i hi).2⟩
 .have e1:iP s.gP=iP (s.gP.toNat:Int):=by rw[eK i0]
  have e2:iP s.ij=iP (s.ij.toNat:Int):=by rw[eK (aD:0<=s.ij)]
  have e3:jC s.gI=mM (s.gI.map mQ.v):=by
   unfold jC mM;rw[cr];congr 1;funext i j;by_cases hi:i<s.gI.length
   .rw [opAt i hi];obtain⟨_,h1,h2,h3,h4⟩:=op i hi;rw[agY h1 h2 h3 h4]
   .have a1:s.gI.getD i iU=iU:=by rw[bn,bR aD];rfl
    have a2:(s.gI.map mQ.v).getD i ig=ig:=by rw[bn,bR aY];rfl
    rw[a1,a2];rfl
  have e4:jG s.gN=mL (s.gN.map Int.toNat):=by
   unfold jG mL;rw[cr];congr 1;funext i j;by_cases hi:i<s.gN.length
   .rw [ouAt i hi,eK (ou i hi).1]
   .rw [bn,bR aD,bn (l:=s.gN.map Int.toNat),bR aY];rfl
  have e5:jk s.params=ic (s.params.map RI.iv):=by
   rw[<-KV];congr 1;apply fF;intro i;unfold sJ;rw[cD,cD];by_cases hi:i<s.params.length
   .have h1:=(pa i hi).1;have g1:=g.params i;rw[bt hi];rw[bn,bt hi]at h1 g1;exact congrArg some (RI.Ok.eq (x:=s.params[i]) h1 g1).symm
   .rw [bR aD];rfl
  show E.agg [iP s.gP,jC s.gI,jG s.gN,iP s.ij,jk s.params]=_;rw[e1,e2,e3,e4,e5];rfl
def Vp(s:jq)(N:Nat)(x:Nat):PS:=⟨85,true,[(31,.e (iP x)),(30,.e (iP s.gI.length)),(29,.e (jC s.gI)),(3,.box 3 0),(1,.box 1 0)],[(3,.cells 25 [iP s.gP,jC s.gI,jG s.gN]),(1,.cells 28 [iP s.gP,jC s.gI,jG s.gN,iP s.ij,jk s.params])]⟩
def Vq(s:jq)(x:Nat):PS:=⟨85,true,[(31,.e (iP x)),(30,.e (iP s.gI.length)),(29,.e (jC s.gI)),(3,.box 3 0),(1,.box 1 0)],[(3,.cells 25 [iP s.gP,jC s.gI,jG s.gN]),(1,.cells 28 [iP s.gP,jC s.gI,jG s.gN,iP s.ij,jk s.params])]⟩
def Vr(s:jq)(x:Nat):PS:=⟨85,true,[(31,.e (iP x)),(30,.e (iP s.gI.length)),(29,.e (jC s.gI)),(3,.box 3 0),(1,.box 1 0)],[(3,.cells 25 [iP s.gP,jC s.gI,jG s.gN]),(1,.cells 28 [iP s.gP,jC s.gI,jG s.gN,iP s.ij,jk s.params])]⟩
def Vs(s:jq)(x:Nat):PS:=⟨85,true,[(31,.e (iP x)),(30,.e (iP s.gI.length)),(29,.e (jC s.gI)),(3,.box 3 0),(1,.box 1 0)],[(3,.cells 25 [iP s.gP,jC s.gI,jG s.gN]),(1,.cells 28 [iP s.gP,jC s.gI,jG s.gN,iP s.ij,jk s.params])]⟩
def nQ{a b:Bool}(h:a=true↔b=true):a=b:=dn.2 h
def qS{a b:Bool}(h:a=b):bP a=bP b:=h▸rfl
def kP{o:mQ}{m:Int}{b:Bool}(h:b=jz o m:=by simp_all[jz,XE]<;>(repeat' split)<;>intros<;>omega):bP b=bP (jz o m):=qS h
noncomputable def aea(o:mQ)(m:Int)(g:o.jo)(C:Bool)(hC:C=decide (o.cn=0/\o.cd=0))(q1:¬o.a<0)(q2:¬o.b<0):Tr prog Tb:=
  .w (o.kind=1)
  (λk1=>aa [tB 21 (a8 k1),.c (Hb o.cn o.cd)]<|.w (lv o.cn o.cd=true)
   (λk2=>aa [tB 24 k2]<|.w (o.a=0)
    (λk3=>aa [tB 28 (a8 k3)]<|.w (o.b=0)
     (λk4=>aa [tB 33 (a8 k4)]<|rQ (bP (o.n==0)) (bP (jz o m)) kP)
     (λk4=>aa [tB 33 (a7 k4)]<|rQ (bP false) (bP (jz o m)) kP))
    (λk3=>aa [tB 28 (a7 k3)]<|rQ (bP false) (bP (jz o m)) kP))
   (λk2=>aa [tB 24 (bc k2)]<|rQ (bP false) (bP (jz o m)) kP))
  (λk1=>aa [tB 21 (a7 k1),.j 80 ⟨111,true,[(40,.e (bP (decide (3<=o.kind/\o.kind<=6)))),(19,.e (iP o.kind)),(5,.e (bP C)),(2,.box 2 0),(1,.e (iP m))],[(2,.cells 74 [iP o.kind,iP o.a,iP o.b,iP o.n,iP o.cn,iP o.cd])]⟩
   (.w (o.kind=3)
    (λm1=>aa [.v 40 (.bool (a8 m1))]<|.e (ae [tB 40 (nQ aM:true=(decide (3<=o.kind/\o.kind<=6)))]))
    (λm1=>aa [.v 40 (.bool (a7 m1))]<|.w (o.kind=4)
     (λm2=>aa [tB 42 (a8 m2)]<|.e (ae [tB 40 (nQ aM:true=(decide (3<=o.kind/\o.kind<=6)))]))
     (λm2=>aa [tB 42 (a7 m2)]<|.w (o.kind=5)
      (λm3=>aa [tB 43 (a8 m3)]<|.e (ae [tB 40 (nQ aM:true=(decide (3<=o.kind/\o.kind<=6)))]))
      (λm3=>aa [tB 43 (a7 m3)]<|.e (ae [tB 40 (nQ aM:(o.kind==6)=(decide (3<=o.kind/\o.kind<=6)))])))))]<|.w (3<=o.kind/\o.kind<=6)
   (λk2=>aa [.v 40 (.bool (bk k2))]<|.w (C=true)
    (λk3=>aa [tB 45 k3]<|.w (o.a<m)
     (λk4=>aa [tB 50 (bk k4)]<|.w (o.b<m)
      (λk5=>aa [tB 56 (bk k5)]<|rQ (bP (o.n==0)) (bP (jz o m)) kP)
      (λk5=>aa [tB 56 (bl k5)]<|rQ (bP false) (bP (jz o m)) kP))
     (λk4=>aa [tB 50 (bl k4)]<|rQ (bP false) (bP (jz o m)) kP))
    (λk3=>aa [tB 45 (bc k3)]<|rQ (bP false) (bP (jz o m)) kP))
   (λk2=>aa [.v 40 (.bool (bl k2))]<|.w (o.kind=8)
    (λk3=>aa [tB 64 (a8 k3)]<|.w (C=true)
     (λk4=>aa [tB 65 k4]<|.w (o.a<m)
      (λk5=>aa [tB 70 (bk k5)]<|.w (o.b=0)
       (λk6=>aa [tB 75 (a8 k6)]<|.w (0<=o.n)
        (λk7=>aa [tB 80 (bk k7)]<|rQ (bP (decide (o.n<=16))) (bP (jz o m)) kP)
        (λk7=>aa [tB 80 (bl k7)]<|rQ (bP false) (bP (jz o m)) kP))
       (λk6=>aa [tB 75 (a7 k6)]<|rQ (bP false) (bP (jz o m)) kP))
      (λk5=>aa [tB 70 (bl k5)]<|rQ (bP false) (bP (jz o m)) kP))
     (λk4=>aa [tB 65 (bc k4)]<|rQ (bP false) (bP (jz o m)) kP))
    (λk3=>aa [tB 64 (a7 k3),.j 174 ⟨111,true,[(87,.e (bP (decide (o.kind=7\/9<=o.kind/\o.kind<=13)))),(5,.e (bP C)),(2,.box 2 0),(1,.e (iP m))],[(2,.cells 74 [iP o.kind,iP o.a,iP o.b,iP o.n,iP o.cn,iP o.cd])]⟩
   (.w (o.kind=7)
    (λm1=>aa [.v 87 (.bool (a8 m1))]<|.e (ae [tB 87 (nQ aM:true=(decide (o.kind=7\/9<=o.kind/\o.kind<=13)))]))
    (λm1=>aa [.v 87 (.bool (a7 m1))]<|.w (o.kind=9)
     (λm2=>aa [tB 89 (a8 m2)]<|.e (ae [tB 87 (nQ aM:true=(decide (o.kind=7\/9<=o.kind/\o.kind<=13)))]))
     (λm2=>aa [tB 89 (a7 m2)]<|.w (o.kind=10)
      (λm3=>aa [tB 90 (a8 m3)]<|.e (ae [tB 87 (nQ aM:true=(decide (o.kind=7\/9<=o.kind/\o.kind<=13)))]))
      (λm3=>aa [tB 90 (a7 m3)]<|.w (o.kind=11)
       (λm4=>aa [tB 91 (a8 m4)]<|.e (ae [tB 87 (nQ aM:true=(decide (o.kind=7\/9<=o.kind/\o.kind<=13)))]))
       (λm4=>aa [tB 91 (a7 m4)]<|.w (o.kind=12)
        (λm5=>aa [tB 92 (a8 m5)]<|.e (ae [tB 87 (nQ aM:true=(decide (o.kind=7\/9<=o.kind/\o.kind<=13)))]))
        (λm5=>aa [tB 92 (a7 m5)]<|.e (ae [tB 87 (nQ aM:(o.kind==13)=(decide (o.kind=7\/9<=o.kind/\o.kind<=13)))])))))))]<|.w (o.kind=7\/9<=o.kind/\o.kind<=13)
     (λk4=>aa [.v 87 (.bool (bk k4))]<|.w (C=true)
      (λk5=>aa [tB 94 k5]<|.w (o.a<m)
       (λk6=>aa [tB 99 (bk k6)]<|.w (o.b=0)
        (λk7=>aa [tB 104 (a8 k7)]<|rQ (bP (o.n==0)) (bP (jz o m)) kP)
        (λk7=>aa [tB 104 (a7 k7)]<|rQ (bP false) (bP (jz o m)) kP))
       (λk6=>aa [tB 99 (bl k6)]<|rQ (bP false) (bP (jz o m)) kP))
      (λk5=>aa [tB 94 (bc k5)]<|rQ (bP false) (bP (jz o m)) kP))
     (λk4=>aa [.v 87 (.bool (bl k4))]<|rQ (bP false) (bP (jz o m)) kP))))
def D6(o:mQ)(m:Int)(g:o.jo):gJ 231 [qq o,iP m] (bP (jz o m)):=
 aj call231 func231 (.w (o.a<0)
  (λk1=>aa [tB 8 (bk k1)]<|rQ (bP false) (bP (jz o m)) kP)
  (λk1=>aa [tB 8 (bl k1)]<|.w (o.b<0)
   (λk2=>aa [tB 12 (bk k2)]<|rQ (bP false) (bP (jz o m)) kP)
   (λk2=>aa [tB 12 (bl k2),.g (S9 g.cn g.cd rfl:oN prog .eql 72 (.agg [iP o.cn,iP o.cd]) (.agg [iP 0,iP 0]) (.bool (decide (o.cn=0/\o.cd=0))))]<|aea o m g (decide (o.cn=0/\o.cd=0)) rfl k1 k2))) 
def aih(s:jq)(g:s.jo)(k:Int)(h0:0<=s.gP)(h8:s.gP<=8)(l2:s.gI.length<=200):gJ 233 [iP k,(.jN 3 λj_=>[iP s.gP,jC s.gI,jG s.gN].getD j_ .any)] (bP (!uD s k)):=
 aj call233 func233 (.w (k<0)
  (λk1=>aa [tB 5 (bk k1)]<|rQ (bP true) (bP (!uD s k)) (qS (by unfold uD;rw[dn];simp_all)))
  (λk1=>aa [tB 5 (bl k1),gW (s.gP+(s.gI.length:Int)) aD]<|rQ (bP (decide ((s.gP+(s.gI.length:Int))<=k))) (bP (!uD s k)) (qS (by unfold uD;rw[dn];simp_all)))) 
def aij(x:RI)(g:x.jo):gJ 234 [kH x] (bP (!n6 x)):=by
 have ga:=g.lo;have gb:=g.hi;by_cases ha:x.all=true
 .have e:n6 x=false:=by unfold n6;rw[ha];simp
  rw[e];exact aj call234 func234 (ae [ag 4 x.all ha]) 
 .replace ha:x.all=false:=by simpa using ha
  by_cases h1:x.lo.Ok
  .by_cases h2:x.hi.Ok
   .have v1:=h1.valid;have v2:=h2.valid;have e1:kH x=gR x.iv:=by rw[<-BH,show x.iv.raw=x by show RI.mk x.lo.dy.raw x.hi.dy.raw x.all=x;rw[h1.eq ga,h2.eq gb]]
    rw[e1];by_cases h3:jh x.lo.dy x.hi.dy<=0
    .have e:n6 x=true:=by unfold n6;rw[pM.2 (.inr ⟨ha,h1,h2,h3⟩),ha];rfl
     rw[e];exact aj call234 func234 (ae [ah 4 x.iv.all ha,af [gM x.iv.lo] (rS _ aE),af [gM x.iv.hi] (rS _ aE),af [gM x.iv.lo,gM x.iv.hi] (nT _ _ aE aE),tF 23 (0<(jh x.iv.lo x.iv.hi)) (by show ¬0<jh x.lo.dy x.hi.dy;omega)]) 
    .have e:n6 x=false:=by unfold n6;rw[show ki x=false by simpa using λq=>(pM.1 q).elim (λq=>by rw[ha]at q;exact Bool.noConfusion q.1) λq=>h3 q.2.2.2];rfl
     rw[e];exact aj call234 func234 (ae [ah 4 x.iv.all ha,af [gM x.iv.lo] (rS _ aE),af [gM x.iv.hi] (rS _ aE),af [gM x.iv.lo,gM x.iv.hi] (nT _ _ aE aE),tT 23 (0<(jh x.iv.lo x.iv.hi)) (by show 0<jh x.lo.dy x.hi.dy;omega)]) 
   .have e:n6 x=false:=by unfold n6;rw[show ki x=false by simpa using λq=>(pM.1 q).elim (λq=>by rw[ha]at q;exact Bool.noConfusion q.1) λq=>h2 q.2.2.1];rfl
    rw[e];exact aj call234 func234 (ae [ah 4 x.all ha,af [pA x.lo] (A9 _ aE true (by simp[h1])),af [pA x.hi] (A9 _ aE false (by simp[h2]))]) 
  .have e:n6 x=false:=by unfold n6;rw[show ki x=false by simpa using λq=>(pM.1 q).elim (λq=>by rw[ha]at q;exact Bool.noConfusion q.1) λq=>h1 q.2.1];rfl
   rw[e];exact aj call234 func234 (ae [ah 4 x.all ha,af [pA x.lo] (A9 _ aE false (by simp[h1]))]) 
def LG(s:jq)(h0:0<=s.gP)(h8:s.gP<=8)(l2:s.gI.length<=200)(lu:s.gN.length<=200)(g:s.jo):gJ 232 [jG s.gN,.fn 233 [(.jN 3 λj_=>[iP s.gP,jC s.gI,jG s.gN].getD j_ .any)]] (bP (!uI s)):=by
 have:=ab8 true s.gN.length (λi _=>iP (s.gN.getD i 0)) 233 [(.jN 3 λj_=>[iP s.gP,jC s.gI,jG s.gN].getD j_ .any)] (λi=>!uD s (s.gN.getD i 0)) (λi _=>aih s g _ h0 h8 l2) (aD:s.gN.length<=1000000);rwa[M4]at this
def aer(f:FuncId)(l:List RI)(hf:∀ i,gJ f [kH (l.getD i iR)] (bP (!n6 (l.getD i iR))))(hl:l.length<=1000):gJ 40 [jk l,.fn f []] (bP (!((List.range l.length).all λi=>n6 (l.getD i iR)))):=by
 have:=yB true l.length (λi j=>(sK (l.getD i iR)).getD j .any) f [] (λi=>!n6 (l.getD i iR)) (λi _=>hf i) (aD:l.length<=1000000);rwa[M4]at this
def ail(s:jq)(g:s.jo)(sm:s.mo)(hc:¬(0<=s.gP/\s.gP<=8/\s.gI.length<=200/\s.gN.length<=200)):gJ 157 [jW s] (bP false):=
 aj call157 func157 (.w (s.gP<0)
  (λk1=>ae [tB 10 (bk k1)])
  (λk1=>aa [tB 10 (bl k1)]<|.w (8<s.gP)
   (λk2=>ae [tB 14 (bk k2)])
   (λk2=>aa [tB 14 (bl k2)]<|.w (200<(s.gI.length:Int))
    (λk3=>ae [tB 20 (bk k3)])
    (λk3=>aa [tB 20 (bl k3)]<|.w (200<(s.gN.length:Int))
     (λk4=>ae [tB 26 (bk k4)])
     (λk4=>.x aD))))) 
def aim(s:jq)(g:s.jo)(sm:s.mo)(i0:0<=s.gP)(i8:s.gP<=8)(l1:s.gI.length<=200)(l2:s.gN.length<=200)(N:Nat)(mA:N<s.gI.length)(iJ:∀ k,k<N->(jz (s.gI.getD k iU) (s.gP+(k:Int)))=true)(hN:(jz (s.gI.getD N iU) (s.gP+(N:Int)))=false):gJ 157 [jW s] (bP false):=
 aj call157 func157 (ae [tF 10 (s.gP<0) aD,tF 14 (8<s.gP) aD,tF 20 (200<(s.gI.length:Int)) aD,tF 26 (200<(s.gN.length:Int)) aD,.s (Sp.iG (Vp s N) 0 N aD (λx hx jf=>by
    have mT:=g.gI x;exact gX (ae [tT 32 ((x:Int)<s.gI.length) aD,iX (x:Int) (s.gI.length) aD,gW (s.gP+(x:Int)) aD,.c (D6 (s.gI.getD x iU) (s.gP+(x:Int)) mT),ah 42 (!(jz (s.gI.getD x iU) (s.gP+(x:Int)))) (by rw[iJ x aD];rfl),gW ((x:Int)+1) aD]) aG)
  (λhx=>by
    have mT:=g.gI N;exact gX (ae [tT 32 ((N:Int)<s.gI.length) aD,iX (N:Int) (s.gI.length) aD,gW (s.gP+(N:Int)) aD,.c (D6 (s.gI.getD N iU) (s.gP+(N:Int)) mT),ag 42 (!(jz (s.gI.getD N iU) (s.gP+(N:Int)))) (by rw[hN];rfl)]) aG) aK:iF 5 f157 (Vp s N 0) .ret ⟨85,true,[(2,.e (bP false))],[]⟩) .nil]) 
def ain(s:jq)(g:s.jo)(sm:s.mo)(i0:0<=s.gP)(i8:s.gP<=8)(l1:s.gI.length<=200)(l2:s.gN.length<=200)(iJ:∀ k,k<s.gI.length->(jz (s.gI.getD k iU) (s.gP+(k:Int)))=true)(hu:uI s=false):gJ 157 [jW s] (bP false):=
 aj call157 func157 (ae [tF 10 (s.gP<0) aD,tF 14 (8<s.gP) aD,tF 20 (200<(s.gI.length:Int)) aD,tF 26 (200<(s.gN.length:Int)) aD,.s (Sp.iG (Vq s) 0 s.gI.length aD (λx hx jf=>by
    have mT:=g.gI x;exact gX (ae [tT 32 ((x:Int)<s.gI.length) aD,iX (x:Int) (s.gI.length) aD,gW (s.gP+(x:Int)) aD,.c (D6 (s.gI.getD x iU) (s.gP+(x:Int)) mT),ah 42 (!(jz (s.gI.getD x iU) (s.gP+(x:Int)))) (by rw[iJ x aD];rfl),gW ((x:Int)+1) aD]) aG)
  (λhx=>by
    exact gX (ae [tF 32 ((s.gI.length:Int)<s.gI.length) aD]) aG) aK:iF 5 f157 (Vq s 0) (.exit 0) ⟨85,true,[(3,.box 3 0),(1,.box 1 0)],[(3,.cells 25 [iP s.gP,jC s.gI,jG s.gN]),(1,.cells 28 [iP s.gP,jC s.gI,jG s.gN,iP s.ij,jk s.params])]⟩) .nil,af [jG s.gN,.fn 233 [(.jN 3 λj_=>[iP s.gP,jC s.gI,jG s.gN].getD j_ .any)]] (LG s aD aD aD aD g),ag 47 (!(uI s)) (by rw[hu];rfl)]) 
def aio(s:jq)(g:s.jo)(sm:s.mo)(i0:0<=s.gP)(i8:s.gP<=8)(l1:s.gI.length<=200)(l2:s.gN.length<=200)(iJ:∀ k,k<s.gI.length->(jz (s.gI.getD k iU) (s.gP+(k:Int)))=true)(hu:uI s=true)(hc:¬(1<=s.ij/\s.ij<=4/\(s.gN.length:Int)=s.ij/\s.gP=s.ij+(s.params.length:Int)/\s.params.length<=4)):gJ 157 [jW s] (bP false):=by
 have sp:=sm.params;exact aj call157 func157 (aa [tF 10 (s.gP<0) aD,tF 14 (8<s.gP) aD,tF 20 (200<(s.gI.length:Int)) aD,tF 26 (200<(s.gN.length:Int)) aD,.s (Sp.iG (Vr s) 0 s.gI.length aD (λx hx jf=>by
    have mT:=g.gI x;exact gX (ae [tT 32 ((x:Int)<s.gI.length) aD,iX (x:Int) (s.gI.length) aD,gW (s.gP+(x:Int)) aD,.c (D6 (s.gI.getD x iU) (s.gP+(x:Int)) mT),ah 42 (!(jz (s.gI.getD x iU) (s.gP+(x:Int)))) (by rw[iJ x aD];rfl),gW ((x:Int)+1) aD]) aG)
  (λhx=>by
    exact gX (ae [tF 32 ((s.gI.length:Int)<s.gI.length) aD]) aG) aK:iF 5 f157 (Vr s 0) (.exit 0) ⟨85,true,[(3,.box 3 0),(1,.box 1 0)],[(3,.cells 25 [iP s.gP,jC s.gI,jG s.gN]),(1,.cells 28 [iP s.gP,jC s.gI,jG s.gN,iP s.ij,jk s.params])]⟩) .nil,af [jG s.gN,.fn 233 [(.jN 3 λj_=>[iP s.gP,jC s.gI,jG s.gN].getD j_ .any)]] (LG s aD aD aD aD g),ah 47 (!(uI s)) (by rw[hu];rfl)]<|.w (s.ij<1)
  (λk1=>ae [tB 50 (bk k1)])
  (λk1=>aa [tB 50 (bl k1)]<|.w (4<s.ij)
   (λk2=>ae [tB 54 (bk k2)])
   (λk2=>aa [tB 54 (bl k2)]<|.w ((s.gN.length:Int)=s.ij)
    (λk3=>aa [tB 62 (bd k3),gW (s.ij+(s.params.length:Int)) aD]<|.w (s.gP=(s.ij+(s.params.length:Int)))
     (λk4=>aa [tB 73 (bd k4)]<|.w (4<(s.params.length:Int))
      (λk5=>ae [tB 79 (bk k5)])
      (λk5=>.x aD))
     (λk4=>ae [tB 73 (bg k4)]))
    (λk3=>ae [tB 62 (bg k3)])))) 
def aip(s:jq)(g:s.jo)(sm:s.mo)(i0:0<=s.gP)(i8:s.gP<=8)(l1:s.gI.length<=200)(l2:s.gN.length<=200)(iJ:∀ k,k<s.gI.length->(jz (s.gI.getD k iU) (s.gP+(k:Int)))=true)(hu:uI s=true)(s1:1<=s.ij)(s4:s.ij<=4)(e1:(s.gN.length:Int)=s.ij)(e2:s.gP=s.ij+(s.params.length:Int))(p4:s.params.length<=4):gJ 157 [jW s] (bP (Cl s)):=by
 have sp:=sm.params;exact aj call157 func157 (aa [tF 10 (s.gP<0) aD,tF 14 (8<s.gP) aD,tF 20 (200<(s.gI.length:Int)) aD,tF 26 (200<(s.gN.length:Int)) aD,.s (Sp.iG (Vs s) 0 s.gI.length aD (λx hx jf=>by
    have mT:=g.gI x;exact gX (ae [tT 32 ((x:Int)<s.gI.length) aD,iX (x:Int) (s.gI.length) aD,gW (s.gP+(x:Int)) aD,.c (D6 (s.gI.getD x iU) (s.gP+(x:Int)) mT),ah 42 (!(jz (s.gI.getD x iU) (s.gP+(x:Int)))) (by rw[iJ x aD];rfl),gW ((x:Int)+1) aD]) aG)
  (λhx=>by
    exact gX (ae [tF 32 ((s.gI.length:Int)<s.gI.length) aD]) aG) aK:iF 5 f157 (Vs s 0) (.exit 0) ⟨85,true,[(3,.box 3 0),(1,.box 1 0)],[(3,.cells 25 [iP s.gP,jC s.gI,jG s.gN]),(1,.cells 28 [iP s.gP,jC s.gI,jG s.gN,iP s.ij,jk s.params])]⟩) .nil,af [jG s.gN,.fn 233 [(.jN 3 λj_=>[iP s.gP,jC s.gI,jG s.gN].getD j_ .any)]] (LG s aD aD aD aD g),ah 47 (!(uI s)) (by rw[hu];rfl),tF 50 (s.ij<1) aD,tF 54 (4<s.ij) aD,ah 62 ((s.gN.length:Int) != s.ij) (by simp[e1]),gW (s.ij+(s.params.length:Int)) aD,ah 73 (s.gP != (s.ij+(s.params.length:Int))) (by simp[e2]),tF 79 (4<(s.params.length:Int)) aD,.c (aer 234 s.params (λi=>aij _ (g.params i)) aD:gJ 40 [jk s.params,.fn 234 []] _)]<|rQ (bP (!(!(Cl s)))) (bP (Cl s)) (qS aJ)) 
def aiq(s:jq)(g:s.jo)(sm:s.mo):gJ 157 [jW s] (bP (my s)):=by
 by_cases c1:0<=s.gP/\s.gP<=8/\s.gI.length<=200/\s.gN.length<=200
 rotate_left
 .rw [show my s=false by unfold my;rw[bl c1];rfl];exact ail s g sm c1
 obtain⟨i0,i8,l1,l2⟩:=c1;by_cases c2:En s=true
 rotate_left
 .rw [show my s=false by unfold my;rw[bc c2];simp];obtain⟨N,n1,n2,n3⟩:=xV c2;exact aim s g sm i0 i8 l1 l2 N n1 (λk hk=>by simpa using n3 k hk) (by simpa using n2)
 have iJ:∀ k,k<s.gI.length->jz (s.gI.getD k iU) (s.gP+(k:Int))=true:=λk hk=>bS.1 c2 k (bD.2 hk)
 cases hu:uI s with
 |false=>
  rw[show my s=false by unfold my;rw[hu];simp];exact ain s g sm i0 i8 l1 l2 iJ hu
 |true=>
  by_cases c3:1<=s.ij/\s.ij<=4/\(s.gN.length:Int)=s.ij/\s.gP=s.ij+(s.params.length:Int)/\s.params.length<=4
  .rw [show my s=Cl s by unfold my;rw[bk (⟨i0,i8,l1,l2⟩:_/\_),c2,hu,bk c3];simp];obtain⟨s1,s4,e1,e2,p4⟩:=c3;exact aip s g sm i0 i8 l1 l2 iJ hu s1 s4 e1 e2 p4
  .rw [show my s=false by unfold my;rw[bl c3];simp];exact aio s g sm i0 i8 l1 l2 iJ hu c3
def Tc{a b c d e f:Int}(ha:ko .i64 a)(hb:ko .i64 b)(hc:ko .i64 c)(hd:ko .i64 d)(he:ko .i64 e)(hf:ko .i64 f):
 prog.keyLits 10 74 [.int .i64 a,.int .i64 b,.int .i64 c,.int .i64 d,.int .i64 e,.int .i64 f]=some [.int .i64 a,.int .i64 b,.int .i64 c,.int .i64 d,.int .i64 e,.int .i64 f]:=by
 have c1:prog.cellsOf 74=6:= aG ;have c2:prog.cellsOf 3=1:= aG ;have c3:prog.cellsOf 72=2:= aG ;have r:prog.keyLits 9 72 [.int .i64 e,.int .i64 f]=some [.int .i64 e,.int .i64 f]:=by
  unfold Program.keyLits;rw[underlying72];simp[c3,c2,fg,yz he,yz hf]
 unfold Program.keyLits;rw[underlying74];simp[c1,c2,c3,fg,yz ha,yz hb,yz hc,yz hd,r]
def GX{a b c d e f a' b' c' d' e' f':Int}(ha:ko .i64 a)(hb:ko .i64 b)(hc:ko .i64 c)(hd:ko .i64 d)(he:ko .i64 e)(hf:ko .i64 f)
 (Bg:ko .i64 a') (mf:ko .i64 b') (w9:ko .i64 c') (zE:ko .i64 d') (he':ko .i64 e') (hf':ko .i64 f'):
 oN prog .eql 74 (.agg [iP a,iP b,iP c,iP d,iP e,iP f]) (.agg [iP a',iP b',iP c',iP d',iP e',iP f']) (.bool (decide (a=a'/\b=b'/\c=c'/\d=d'/\e=e'/\f=f'))):=
 ad8 (Tc ha hb hc hd he hf) (Tc Bg mf w9 zE he' hf') aG aG rfl
def tC:ko .i64 0:=by unfold ko;decide
def aiN{d:Int}(h0:0<=d)(h:d<=1073741824):IntKind.u64.wrap d=(d.natAbs:Int):=by rw[IntKind.wrap_u64];omega
def PK(a b:Nat)(x:Nat):PS:=⟨12,true,[(0,.e (.v (.int .u64 (((lJ a b x).1:Nat):Int)))),(1,.e (.v (.int .u64 (((lJ a b x).2:Nat):Int))))],[]⟩
def UW(s:jq)(N:Nat)(x:Nat):PS:=⟨131,true,[(4,.e (iP x)),(3,.box 3 0),(1,.box 1 0)],[(3,.cells 25 [iP s.gP,jC s.gI,jG s.gN]),(1,.cells 28 [iP s.gP,jC s.gI,jG s.gN,iP s.ij,jk s.params])]⟩
def UQ(s:jq)(x:Nat):PS:=⟨131,true,[(4,.e (iP x)),(3,.box 3 0),(1,.box 1 0)],[(3,.cells 25 [iP s.gP,jC s.gI,jG s.gN]),(1,.cells 28 [iP s.gP,jC s.gI,jG s.gN,iP s.ij,jk s.params])]⟩
def UX(s:jq)(N:Nat)(x:Nat):PS:=⟨131,true,[(5,.e (iP x)),(3,.box 3 0),(1,.box 1 0)],[(3,.cells 25 [iP s.gP,jC s.gI,jG s.gN]),(1,.cells 28 [iP s.gP,jC s.gI,jG s.gN,iP s.ij,jk s.params])]⟩
def UR(s:jq)(x:Nat):PS:=⟨131,true,[(4,.e (iP x)),(3,.box 3 0),(1,.box 1 0)],[(3,.cells 25 [iP s.gP,jC s.gI,jG s.gN]),(1,.cells 28 [iP s.gP,jC s.gI,jG s.gN,iP s.ij,jk s.params])]⟩
def UY(s:jq)(N:Nat)(x:Nat):PS:=⟨131,true,[(5,.e (iP x)),(3,.box 3 0),(1,.box 1 0)],[(3,.cells 25 [iP s.gP,jC s.gI,jG s.gN]),(1,.cells 28 [iP s.gP,jC s.gI,jG s.gN,iP s.ij,jk s.params])]⟩
def US(s:jq)(x:Nat):PS:=⟨131,true,[(4,.e (iP x)),(3,.box 3 0),(1,.box 1 0)],[(3,.cells 25 [iP s.gP,jC s.gI,jG s.gN]),(1,.cells 28 [iP s.gP,jC s.gI,jG s.gN,iP s.ij,jk s.params])]⟩
def UZ(s:jq)(x:Nat):PS:=⟨131,true,[(5,.e (iP x)),(3,.box 3 0),(1,.box 1 0)],[(3,.cells 25 [iP s.gP,jC s.gI,jG s.gN]),(1,.cells 28 [iP s.gP,jC s.gI,jG s.gN,iP s.ij,jk s.params])]⟩
def U1(s:jq)(N:Nat)(x:Nat):PS:=⟨131,true,[(6,.e (iP x)),(1,.box 1 0)],[(1,.cells 28 [iP s.gP,jC s.gI,jG s.gN,iP s.ij,jk s.params])]⟩
def UT(s:jq)(x:Nat):PS:=⟨131,true,[(4,.e (iP x)),(3,.box 3 0),(1,.box 1 0)],[(3,.cells 25 [iP s.gP,jC s.gI,jG s.gN]),(1,.cells 28 [iP s.gP,jC s.gI,jG s.gN,iP s.ij,jk s.params])]⟩
def U2(s:jq)(x:Nat):PS:=⟨131,true,[(5,.e (iP x)),(3,.box 3 0),(1,.box 1 0)],[(3,.cells 25 [iP s.gP,jC s.gI,jG s.gN]),(1,.cells 28 [iP s.gP,jC s.gI,jG s.gN,iP s.ij,jk s.params])]⟩
def U3(s:jq)(N:Nat)(x:Nat):PS:=⟨131,true,[(6,.e (iP x)),(1,.box 1 0)],[(1,.cells 28 [iP s.gP,jC s.gI,jG s.gN,iP s.ij,jk s.params])]⟩
def UU(s:jq)(x:Nat):PS:=⟨131,true,[(4,.e (iP x)),(3,.box 3 0),(1,.box 1 0)],[(3,.cells 25 [iP s.gP,jC s.gI,jG s.gN]),(1,.cells 28 [iP s.gP,jC s.gI,jG s.gN,iP s.ij,jk s.params])]⟩
def U4(s:jq)(x:Nat):PS:=⟨131,true,[(5,.e (iP x)),(3,.box 3 0),(1,.box 1 0)],[(3,.cells 25 [iP s.gP,jC s.gI,jG s.gN]),(1,.cells 28 [iP s.gP,jC s.gI,jG s.gN,iP s.ij,jk s.params])]⟩
def U5(s:jq)(x:Nat):PS:=⟨131,true,[(6,.e (iP x)),(1,.box 1 0)],[(1,.cells 28 [iP s.gP,jC s.gI,jG s.gN,iP s.ij,jk s.params])]⟩
def TN(s:jq)(b:List RI)(N:Nat)(x:Nat):PS:=⟨35,true,[(5,.e (iP x)),(1,.e (jk b))],[]⟩
def TO(s:jq)(b:List RI)(N:Nat)(x:Nat):PS:=⟨35,true,[(5,.e (iP x)),(1,.e (jk b))],[]⟩
def TP(s:jq)(b:List RI)(x:Nat):PS:=⟨35,true,[(5,.e (iP x)),(1,.e (jk b))],[]⟩
def aaH(a b N:Nat)(ha:a<18446744073709551616)(hb:b<18446744073709551616)(iJ:∀ k,k<N->(lJ a b k).2≠0)(hN:(lJ a b N).2=0):gJ 168 [.v (.int .u64 (a:Int)),.v (.int .u64 (b:Int))] (.v (.int .u64 (((lJ a b N).1:Nat):Int))):=
 aj call168 func168 (ae [.s (Sp.iG (PK a b) 0 N aD (λx hx jf=>by
    have om:=iJ x aD;exact gX (aa [ag 6 ((((lJ a b x).2:Nat):Int) != 0) (BO (iJ x aD)),.a (aD:0<((((lJ a b x).2:Nat):Int):Int))]<|.e (ae [.o 0 (.int aS:ai (.v (.int .u64 (((lJ a b x).2:Nat):Int))) (.v (.int .u64 (((lJ a b (x+1)).1:Nat):Int)))),.o 1 (.int aS:ai (.v (.int .u64 ((((lJ a b x).1)%((lJ a b x).2):Nat):Int))) (.v (.int .u64 (((lJ a b (x+1)).2:Nat):Int))))])) aG)
  (λhx=>by
    exact gX (ae [ah 6 ((((lJ a b N).2:Nat):Int) != 0) (yJ hN)]) aG) aK:iF 1 f168 (PK a b 0) (.exit 0) ⟨12,true,[(0,.e (.v (.int .u64 (((lJ a b N).1:Nat):Int))))],[]⟩) (ae [.o 0 (.int aS:ai (.v (.int .u64 (a:Int))) (.v (.int .u64 (((lJ a b 0).1:Nat):Int)))),.o 1 (.int aS:ai (.v (.int .u64 (b:Int))) (.v (.int .u64 (((lJ a b 0).2:Nat):Int))))])]) 
def aaI(a b:Nat)(ha:a<18446744073709551616)(hb:b<18446744073709551616):gJ 168 [.v (.int .u64 (a:Int)),.v (.int .u64 (b:Int))] (.v (.int .u64 (Nat.gcd a b:Int))):=by
 obtain⟨N,h1,h2⟩:=Pg b a;have hg:=Js a b N;rw[h2,akd]at hg;rw[<-hg];exact aaH a b N ha hb h1 h2
def ahP(m:Nat)(h:m<=1073741824):gJ 169 [iP m] (.v (.int .u64 (m:Int))):=
 aj call169 func169 (ae [tF 4 ((m:Int)<0) aD,.o 11 (.int (oH _ aD):ai (.v (.int .u64 (IntKind.u64.wrap (m:Int)))) (.v (.int .u64 (m:Int))))]) 
def ahO(m:Nat)(h0:0<m)(h:m<=1073741824):gJ 169 [iP (-(m:Int))] (.v (.int .u64 (m:Int))):=
 aj call169 func169 (aa [tT 4 ((-(m:Int))<0) aD,gW ((-(m:Int))+1) aD,gW (0-((-(m:Int))+1)) aD,.o 7 (an (0-((-(m:Int))+1)) ((m-1:Nat):Int) aD),.o 8 (.int (oH _ aD):ai (.v (.int .u64 (IntKind.u64.wrap ((m-1:Nat):Int)))) (.v (.int .u64 ((m-1:Nat):Int)))),oF (((m-1:Nat):Int)+1) aD]<|rQ (.v (.int .u64 (((m-1)+1:Nat):Int))) (.v (.int .u64 (m:Int))) (by rw[(aD:m-1+1=m)])) 
def Ms(n:Int)(h1:-1073741824<=n)(h2:n<=1073741824):gJ 169 [iP n] (.v (.int .u64 (n.natAbs:Int))):=by
 by_cases h:0<=n
 .obtain ⟨m,rfl⟩:=dm h;exact ahP m aD 
 .obtain ⟨m,rfl⟩:∃ m:Nat,n = -(m:Int):=⟨n.natAbs,aD⟩
  rw[fj,dc];exact ahO m aD aD 
def Eh(n d:Int):gJ 94 [.agg [iP n,iP d]] (bP (lv n d)):=
 aj call94 func94 (.w (1<=d)
  (λk1=>aa [tB 5 (bk k1)]<|.w (d<=1073741824)
   (λk2=>aa [tB 9 (bk k2)]<|.w ((-1073741824)<=n)
    (λk3=>aa [tB 14 (bk k3)]<|.w (n<=1073741824)
     (λk4=>aa [tB 19 (bk k4),af [iP n] (Ms _ aD aD),.o 27 (.int (aiN aD aD):ai (.v (.int .u64 (IntKind.u64.wrap d))) (.v (.int .u64 (Int.natAbs d:Int)))),af [.v (.int .u64 (Int.natAbs n:Int)),.v (.int .u64 (Int.natAbs d:Int))] (aaI _ _ aD aD)]<|rQ (bP ((Nat.gcd (Int.natAbs n) (Int.natAbs d):Int)==1)) (bP (lv n d)) (by unfold lv;simp[wv,k1,k2,k3,k4]))
     (λk4=>aa [tB 19 (bl k4)]<|rQ (bP false) (bP (lv n d)) (by unfold lv;simp[wv,k1,k2,k3,k4])))
    (λk3=>aa [tB 14 (bl k3)]<|rQ (bP false) (bP (lv n d)) (by unfold lv;simp[wv,k1,k2,k3])))
   (λk2=>aa [tB 9 (bl k2)]<|rQ (bP false) (bP (lv n d)) (by unfold lv;simp[wv,k1,k2])))
  (λk1=>aa [tB 5 (bl k1)]<|rQ (bP false) (bP (lv n d)) (by unfold lv;simp[wv,k1]))) 
def Ak(o:mQ)(m:Int)(g:o.jo):gJ 48 [qq o,iP m] (bP (jz o m)):=
 aj call48 func48 (.w (o.kind=1)
  (λk1=>aa [tB 13 (a8 k1),af [.agg [iP o.cn,iP o.cd]] (Eh _ _)]<|.w (lv o.cn o.cd=true)
   (λk2=>aa [tB 19 k2,ah 47 (decide ((0:Int)<0)) aF,ah 52 (decide ((1:Int)<0)) aF,.g (GX g.kind g.a g.b g.n g.cn g.cd g.kind tC tC tC g.cn g.cd:oN prog .eql 74 (qq o) (.agg [iP o.kind,iP 0,iP 0,iP 0,iP o.cn,iP o.cd]) (.bool (decide (o.kind=o.kind/\o.a=0/\o.b=0/\o.n=0/\o.cn=o.cn/\o.cd=o.cd))))]<|.w (o.kind=o.kind/\o.a=0/\o.b=0/\o.n=0/\o.cn=o.cn/\o.cd=o.cd)
    (λk3=>aa [tB 58 (bk k3),ag 61 ((0:Int)==0) aF]<|rQ (bP true) (bP (jz o m)) kP)
    (λk3=>aa [tB 58 (bl k3)]<|rQ (bP false) (bP (jz o m)) kP))
   (λk2=>aa [tB 19 (bc k2)]<|rQ (bP false) (bP (jz o m)) kP))
  (λk1=>aa [tB 13 (a7 k1),.j 42 ⟨85,true,[(21,.e (bP (decide (3<=o.kind/\o.kind<=6)))),(11,.e (iP o.kind)),(6,.box 6 0),(2,.box 2 0),(1,.e (iP m))],[(6,.cells 74 [iP o.kind,iP 0,iP 0,iP 0,iP 0,iP 0]),(2,.cells 74 [iP o.kind,iP o.a,iP o.b,iP o.n,iP o.cn,iP o.cd])]⟩
   (.w (o.kind=3)
    (λm1=>aa [.v 21 (.bool (a8 m1))]<|.e (ae [tB 21 (nQ aM:true=(decide (3<=o.kind/\o.kind<=6)))]))
    (λm1=>aa [.v 21 (.bool (a7 m1))]<|.w (o.kind=4)
     (λm2=>aa [tB 23 (a8 m2)]<|.e (ae [tB 21 (nQ aM:true=(decide (3<=o.kind/\o.kind<=6)))]))
     (λm2=>aa [tB 23 (a7 m2)]<|.w (o.kind=5)
      (λm3=>aa [tB 24 (a8 m3)]<|.e (ae [tB 21 (nQ aM:true=(decide (3<=o.kind/\o.kind<=6)))]))
      (λm3=>aa [tB 24 (a7 m3)]<|.e (ae [tB 21 (nQ aM:(o.kind==6)=(decide (3<=o.kind/\o.kind<=6)))])))))]<|.w (3<=o.kind/\o.kind<=6)
   (λk2=>aa [.v 21 (.bool (bk k2)),ag 47 (decide ((0:Int)<2)) aF,ag 52 (decide ((1:Int)<2)) aF,.g (GX g.kind g.a g.b g.n g.cn g.cd g.kind g.a g.b tC tC tC:oN prog .eql 74 (qq o) (.agg [iP o.kind,iP o.a,iP o.b,iP 0,iP 0,iP 0]) (.bool (decide (o.kind=o.kind/\o.a=o.a/\o.b=o.b/\o.n=0/\o.cn=0/\o.cd=0))))]<|.w (o.kind=o.kind/\o.a=o.a/\o.b=o.b/\o.n=0/\o.cn=0/\o.cd=0)
    (λk3=>aa [tB 58 (bk k3),ah 61 ((2:Int)==0) aF]<|.w (0<=o.a)
     (λk4=>aa [tB 65 (bk k4)]<|.w (o.a<m)
      (λk5=>aa [tB 70 (bk k5)]<|.w (0<=o.b)
       (λk6=>aa [tB 75 (bk k6)]<|rQ (bP (decide (o.b<m))) (bP (jz o m)) kP)
       (λk6=>aa [tB 75 (bl k6)]<|rQ (bP false) (bP (jz o m)) kP))
      (λk5=>aa [tB 70 (bl k5)]<|rQ (bP false) (bP (jz o m)) kP))
     (λk4=>aa [tB 65 (bl k4)]<|rQ (bP false) (bP (jz o m)) kP))
    (λk3=>aa [tB 58 (bl k3)]<|rQ (bP false) (bP (jz o m)) kP))
   (λk2=>aa [.v 21 (.bool (bl k2)),.j 52 ⟨85,true,[(26,.e (bP (decide (o.kind=7\/9<=o.kind/\o.kind<=13)))),(11,.e (iP o.kind)),(6,.box 6 0),(2,.box 2 0),(1,.e (iP m))],[(6,.cells 74 [iP o.kind,iP 0,iP 0,iP 0,iP 0,iP 0]),(2,.cells 74 [iP o.kind,iP o.a,iP o.b,iP o.n,iP o.cn,iP o.cd])]⟩
   (.w (o.kind=7)
    (λm1=>aa [.v 26 (.bool (a8 m1))]<|.e (ae [tB 26 (nQ aM:true=(decide (o.kind=7\/9<=o.kind/\o.kind<=13)))]))
    (λm1=>aa [.v 26 (.bool (a7 m1))]<|.w (o.kind=9)
     (λm2=>aa [tB 28 (a8 m2)]<|.e (ae [tB 26 (nQ aM:true=(decide (o.kind=7\/9<=o.kind/\o.kind<=13)))]))
     (λm2=>aa [tB 28 (a7 m2)]<|.w (o.kind=10)
      (λm3=>aa [tB 29 (a8 m3)]<|.e (ae [tB 26 (nQ aM:true=(decide (o.kind=7\/9<=o.kind/\o.kind<=13)))]))
      (λm3=>aa [tB 29 (a7 m3)]<|.w (o.kind=11)
       (λm4=>aa [tB 30 (a8 m4)]<|.e (ae [tB 26 (nQ aM:true=(decide (o.kind=7\/9<=o.kind/\o.kind<=13)))]))
       (λm4=>aa [tB 30 (a7 m4)]<|.w (o.kind=12)
        (λm5=>aa [tB 31 (a8 m5)]<|.e (ae [tB 26 (nQ aM:true=(decide (o.kind=7\/9<=o.kind/\o.kind<=13)))]))
        (λm5=>aa [tB 31 (a7 m5)]<|.e (ae [tB 26 (nQ aM:(o.kind==13)=(decide (o.kind=7\/9<=o.kind/\o.kind<=13)))])))))))]<|.w (o.kind=7\/9<=o.kind/\o.kind<=13)
    (λk3=>aa [.v 26 (.bool (bk k3)),ag 47 (decide ((0:Int)<1)) aF,ah 52 (decide ((1:Int)<1)) aF,.g (GX g.kind g.a g.b g.n g.cn g.cd g.kind g.a tC tC tC tC:oN prog .eql 74 (qq o) (.agg [iP o.kind,iP o.a,iP 0,iP 0,iP 0,iP 0]) (.bool (decide (o.kind=o.kind/\o.a=o.a/\o.b=0/\o.n=0/\o.cn=0/\o.cd=0))))]<|.w (o.kind=o.kind/\o.a=o.a/\o.b=0/\o.n=0/\o.cn=0/\o.cd=0)
     (λk4=>aa [tB 58 (bk k4),ah 61 ((1:Int)==0) aF]<|.w (0<=o.a)
      (λk5=>aa [tB 65 (bk k5)]<|.w (o.a<m)
       (λk6=>aa [tB 70 (bk k6)]<|.w (0<=o.b)
        (λk7=>aa [tB 75 (bk k7)]<|rQ (bP (decide (o.b<m))) (bP (jz o m)) kP)
        (λk7=>aa [tB 75 (bl k7)]<|rQ (bP false) (bP (jz o m)) kP))
       (λk6=>aa [tB 70 (bl k6)]<|rQ (bP false) (bP (jz o m)) kP))
      (λk5=>aa [tB 65 (bl k5)]<|rQ (bP false) (bP (jz o m)) kP))
     (λk4=>aa [tB 58 (bl k4)]<|rQ (bP false) (bP (jz o m)) kP))
    (λk3=>aa [.v 26 (.bool (bl k3))]<|.w (o.kind=8)
     (λk4=>aa [tB 34 (a8 k4)]<|.w (o.n<0)
      (λk5=>aa [tB 40 (bk k5)]<|rQ (bP false) (bP (jz o m)) kP)
      (λk5=>aa [tB 40 (bl k5)]<|.w (16<o.n)
       (λk6=>aa [tB 44 (bk k6)]<|rQ (bP false) (bP (jz o m)) kP)
       (λk6=>aa [tB 44 (bl k6),ag 47 (decide ((0:Int)<1)) aF,ah 52 (decide ((1:Int)<1)) aF,.g (GX g.kind g.a g.b g.n g.cn g.cd g.kind g.a tC g.n tC tC:oN prog .eql 74 (qq o) (.agg [iP o.kind,iP o.a,iP 0,iP o.n,iP 0,iP 0]) (.bool (decide (o.kind=o.kind/\o.a=o.a/\o.b=0/\o.n=o.n/\o.cn=0/\o.cd=0))))]<|.w (o.kind=o.kind/\o.a=o.a/\o.b=0/\o.n=o.n/\o.cn=0/\o.cd=0)
        (λk7=>aa [tB 58 (bk k7),ah 61 ((1:Int)==0) aF]<|.w (0<=o.a)
         (λk8=>aa [tB 65 (bk k8)]<|.w (o.a<m)
          (λk9=>aa [tB 70 (bk k9)]<|.w (0<=o.b)
           (λk10=>aa [tB 75 (bk k10)]<|rQ (bP (decide (o.b<m))) (bP (jz o m)) kP)
           (λk10=>aa [tB 75 (bl k10)]<|rQ (bP false) (bP (jz o m)) kP))
          (λk9=>aa [tB 70 (bl k9)]<|rQ (bP false) (bP (jz o m)) kP))
         (λk8=>aa [tB 65 (bl k8)]<|rQ (bP false) (bP (jz o m)) kP))
        (λk7=>aa [tB 58 (bl k7)]<|rQ (bP false) (bP (jz o m)) kP))))
     (λk4=>aa [tB 34 (a7 k4)]<|rQ (bP false) (bP (jz o m)) kP))))) 
def SF(L:List Nat):((L.length:Int)=0)↔L=[]:=by rw[<-aj9];omega
def zB(d:RD):Bool:=!d.neg&&decide (d.L=[])&&(d.e==0)
def EI{d:RD}:zB d=true↔d.Zero:=by simp[zB,RD.Zero,and_assoc]
def Eg(d:RD):gJ 95 [pA d] (bP (zB d)):=
 aj call95 func95 (.w (d.neg=true)
  (λk1=>aa [tB 4 k1]<|rQ (bP false) (bP (zB d)) (by simp[zB,k1]))
  (λk1=>aa [tB 4 (bc k1)]<|.w ((d.L.length:Int)=0)
   (λk2=>aa [tB 10 (a8 k2)]<|rQ (bP (d.e==0)) (bP (zB d)) (by simp[zB,k1,show d.L=[]from(SF _).1 k2]))
   (λk2=>aa [tB 10 (a7 k2)]<|rQ (bP false) (bP (zB d)) (by simp[zB,k1,show ¬d.L=[]from λq=>k2 ((SF _).2 q)])))) 
def rH(x:RI)(g:x.jo):gJ 49 [kH x] (bP (ki x)):=by
 have ga:=g.lo;have gb:=g.hi;by_cases ha:x.all=true
 .have nb:∀ q:x.all=false,False:=λq=>by rw[ha]at q;cases q
  by_cases h1:x.lo.Zero
  .by_cases h2:x.hi.Zero
   .rw [pM.2 (.inl ⟨ha,h1,h2⟩)];exact aj call49 func49 (ae [ag 4 x.all ha,af [pA x.lo] (Eg _),ag 7 (zB x.lo) (EI.2 h1),af [pA x.hi] (Eg _),ag 11 (zB x.hi) (EI.2 h2)]) 
   .have e:ki x=false:=by simpa using λq=>(pM.1 q).elim (λq=>h2 q.2.2) λq=>nb q.1
    rw[e];exact aj call49 func49 (ae [ag 4 x.all ha,af [pA x.lo] (Eg _),ag 7 (zB x.lo) (EI.2 h1),af [pA x.hi] (Eg _),ah 11 (zB x.hi) (bc λq=>h2 (EI.1 q))]) 
  .have e:ki x=false:=by simpa using λq=>(pM.1 q).elim (λq=>h1 q.2.1) λq=>nb q.1
   rw[e];exact aj call49 func49 (ae [ag 4 x.all ha,af [pA x.lo] (Eg _),ah 7 (zB x.lo) (bc λq=>h1 (EI.1 q))]) 
 .replace ha:x.all=false:=by simpa using ha
  by_cases h1:x.lo.Ok
  .by_cases h2:x.hi.Ok
   .have v1:=h1.valid;have v2:=h2.valid;have e1:kH x=gR x.iv:=by rw[<-BH,show x.iv.raw=x by show RI.mk x.lo.dy.raw x.hi.dy.raw x.all=x;rw[h1.eq ga,h2.eq gb]]
    rw[e1];by_cases h3:jh x.lo.dy x.hi.dy<=0
    .rw [pM.2 (.inr ⟨ha,h1,h2,h3⟩)];exact aj call49 func49 (ae [ah 4 x.iv.all ha,af [gM x.iv.lo] (yV _ aE),af [gM x.iv.hi] (yV _ aE),.c (r9 x.iv.lo x.iv.hi v1.ng v2.ng),tB 27 (bk h3)]) 
    .have e:ki x=false:=by simpa using λq=>(pM.1 q).elim (λq=>by rw[ha]at q;exact Bool.noConfusion q.1) λq=>h3 q.2.2.2
     rw[e];exact aj call49 func49 (ae [ah 4 x.iv.all ha,af [gM x.iv.lo] (yV _ aE),af [gM x.iv.hi] (yV _ aE),.c (r9 x.iv.lo x.iv.hi v1.ng v2.ng),tB 27 (bl h3)]) 
   .have e:ki x=false:=by simpa using λq=>(pM.1 q).elim (λq=>by rw[ha]at q;exact Bool.noConfusion q.1) λq=>h2 q.2.2.1
    rw[e];exact aj call49 func49 (ae [ah 4 x.all ha,af [pA x.lo] (Ma _ aE _ Cg),ag 15 (Hp x.lo) (Cg.2 h1),af [pA x.hi] (Ma _ aE _ Cg),ah 19 (Hp x.hi) (bc λq=>h2 (Cg.1 q))]) 
  .have e:ki x=false:=by simpa using λq=>(pM.1 q).elim (λq=>by rw[ha]at q;exact Bool.noConfusion q.1) λq=>h1 q.2.1
   rw[e];exact aj call49 func49 (ae [ah 4 x.all ha,af [pA x.lo] (Ma _ aE _ Cg),ah 15 (Hp x.lo) (bc λq=>h1 (Cg.1 q))]) 
def aeM(s:jq)(g:s.jo)(sm:s.mo)(hc:¬(0<=s.gP/\s.gP<=8/\s.gI.length<=200/\s.gN.length<=200/\1<=s.ij/\s.ij<=4/\(s.gN.length:Int)=s.ij/\s.params.length<=4/\s.gP=s.ij+(s.params.length:Int))):gJ 12 [jW s] (bP false):=by
 have sp:=sm.params;have so:=sm.gN;have sq:=sm.gI;exact aj call12 func12 (.w (s.gP<0)
  (λk1=>ae [tB 11 (bk k1)])
  (λk1=>aa [tB 11 (bl k1)]<|.w (8<s.gP)
   (λk2=>ae [tB 15 (bk k2)])
   (λk2=>aa [tB 15 (bl k2)]<|.w (200<(s.gI.length:Int))
    (λk3=>ae [tB 21 (bk k3)])
    (λk3=>aa [tB 21 (bl k3)]<|.w (200<(s.gN.length:Int))
     (λk4=>ae [tB 27 (bk k4)])
     (λk4=>aa [tB 27 (bl k4)]<|.w (s.ij<1)
      (λk5=>ae [tB 32 (bk k5)])
      (λk5=>aa [tB 32 (bl k5)]<|.w (4<s.ij)
       (λk6=>ae [tB 37 (bk k6)])
       (λk6=>aa [tB 37 (bl k6)]<|.w ((s.gN.length:Int)=s.ij)
        (λk7=>aa [tB 45 (bd k7)]<|.w (4<(s.params.length:Int))
         (λk8=>ae [tB 51 (bk k8)])
         (λk8=>aa [tB 51 (bl k8),gW (s.ij+(s.params.length:Int)) aD]<|.w (s.gP=(s.ij+(s.params.length:Int)))
          (λk9=>.x (by exact absurd ⟨aD,aD,aD,aD,aD,aD,aD,aD,aD⟩ hc))
          (λk9=>ae [tB 62 (bg k9)])))
        (λk7=>ae [tB 45 (bg k7)])))))))) 
def aeN(s:jq)(g:s.jo)(sm:s.mo)(i0:0<=s.gP)(i8:s.gP<=8)(l1:s.gI.length<=200)(l2:s.gN.length<=200)(s1:1<=s.ij)(s4:s.ij<=4)(e1:(s.gN.length:Int)=s.ij)(e2:s.gP=s.ij+(s.params.length:Int))(p4:s.params.length<=4)(N:Nat)(mA:N<s.gI.length)(iJ:∀ k,k<N->(jz (s.gI.getD k iU) (s.gP+(k:Int)))=true)(hN:(jz (s.gI.getD N iU) (s.gP+(N:Int)))=false):gJ 12 [jW s] (bP false):=by
 have sp:=sm.params;have so:=sm.gN;have sq:=sm.gI;exact aj call12 func12 (ae [tF 11 (s.gP<0) aD,tF 15 (8<s.gP) aD,tF 21 (200<(s.gI.length:Int)) aD,tF 27 (200<(s.gN.length:Int)) aD,tF 32 (s.ij<1) aD,tF 37 (4<s.ij) aD,ah 45 ((s.gN.length:Int) != s.ij) (by simp[e1]),tF 51 (4<(s.params.length:Int)) aD,gW (s.ij+(s.params.length:Int)) aD,ah 62 (s.gP != (s.ij+(s.params.length:Int))) (by simp[e2]),.s (Sp.iG (UW s N) 0 N aD (λx hx jf=>by
    have mT:=g.gI x;exact gX (ae [tT 68 ((x:Int)<s.gI.length) aD,iX (x:Int) (s.gI.length) aD,gW (s.gP+(x:Int)) aD,af [qq (s.gI.getD x iU),iP (s.gP+(x:Int))] (Ak _ _ mT),ah 81 (!(jz (s.gI.getD x iU) (s.gP+(x:Int)))) (by rw[iJ x aD];rfl),
     gW ((x:Int)+1) aD]) aG)
  (λhx=>by
    have mT:=g.gI N;exact gX (ae [tT 68 ((N:Int)<s.gI.length) aD,iX (N:Int) (s.gI.length) aD,gW (s.gP+(N:Int)) aD,af [qq (s.gI.getD N iU),iP (s.gP+(N:Int))] (Ak _ _ mT),ag 81 (!(jz (s.gI.getD N iU) (s.gP+(N:Int)))) (by rw[hN];rfl)]) aG) aK:iF 5 Tryz.f12 (UW s N 0) .ret ⟨131,true,[(2,.e (bP false))],[]⟩) .nil]) 
def aeO(s:jq)(g:s.jo)(sm:s.mo)(i0:0<=s.gP)(i8:s.gP<=8)(l1:s.gI.length<=200)(l2:s.gN.length<=200)(s1:1<=s.ij)(s4:s.ij<=4)(e1:(s.gN.length:Int)=s.ij)(e2:s.gP=s.ij+(s.params.length:Int))(p4:s.params.length<=4)(iJ:∀ k,k<s.gI.length->(jz (s.gI.getD k iU) (s.gP+(k:Int)))=true)(N:Nat)(mA:N<s.gN.length)(mU:∀ k,k<N->0<=(s.gN.getD k 0)/\(s.gN.getD k 0)<s.gP+(s.gI.length:Int))(hN:(s.gN.getD N 0)<0):gJ 12 [jW s] (bP false):=by
 have sp:=sm.params;have so:=sm.gN;have sq:=sm.gI;exact aj call12 func12 (ae [tF 11 (s.gP<0) aD,tF 15 (8<s.gP) aD,tF 21 (200<(s.gI.length:Int)) aD,tF 27 (200<(s.gN.length:Int)) aD,tF 32 (s.ij<1) aD,tF 37 (4<s.ij) aD,ah 45 ((s.gN.length:Int) != s.ij) (by simp[e1]),tF 51 (4<(s.params.length:Int)) aD,gW (s.ij+(s.params.length:Int)) aD,ah 62 (s.gP != (s.ij+(s.params.length:Int))) (by simp[e2]),.s (Sp.iG (UQ s) 0 s.gI.length aD (λx hx jf=>by
    have mT:=g.gI x;exact gX (ae [tT 68 ((x:Int)<s.gI.length) aD,iX (x:Int) (s.gI.length) aD,gW (s.gP+(x:Int)) aD,af [qq (s.gI.getD x iU),iP (s.gP+(x:Int))] (Ak _ _ mT),ah 81 (!(jz (s.gI.getD x iU) (s.gP+(x:Int)))) (by rw[iJ x aD];rfl),
     gW ((x:Int)+1) aD]) aG)
  (λhx=>by
    exact gX (ae [tF 68 ((s.gI.length:Int)<s.gI.length) aD]) aG) aK:iF 5 Tryz.f12 (UQ s 0) (.exit 0) ⟨131,true,[(3,.box 3 0),(1,.box 1 0)],[(3,.cells 25 [iP s.gP,jC s.gI,jG s.gN]),(1,.cells 28 [iP s.gP,jC s.gI,jG s.gN,iP s.ij,jk s.params])]⟩) .nil,.s (Sp.iG (UX s N) 0 N aD (λx hx jf=>by
    have zN:=mU x aD;exact gX (ae [tT 86 ((x:Int)<s.gN.length) aD,iX (x:Int) (s.gN.length) aD,tF 94 ((s.gN.getD x 0)<0) aD,iX (x:Int) (s.gN.length) aD,
     gW (s.gP+(s.gI.length:Int)) aD,tF 107 ((s.gP+(s.gI.length:Int))<=(s.gN.getD x 0)) aD,gW ((x:Int)+1) aD]) aG)
  (λhx=>by
    exact gX (ae [tT 86 ((N:Int)<s.gN.length) aD,iX (N:Int) (s.gN.length) aD,tB 94 (bk hN)]) aG) aK:iF 10 Tryz.f12 (UX s N 0) .ret ⟨131,true,[(2,.e (bP false))],[]⟩) .nil]) 
def aeP(s:jq)(g:s.jo)(sm:s.mo)(i0:0<=s.gP)(i8:s.gP<=8)(l1:s.gI.length<=200)(l2:s.gN.length<=200)(s1:1<=s.ij)(s4:s.ij<=4)(e1:(s.gN.length:Int)=s.ij)(e2:s.gP=s.ij+(s.params.length:Int))(p4:s.params.length<=4)(iJ:∀ k,k<s.gI.length->(jz (s.gI.getD k iU) (s.gP+(k:Int)))=true)(N:Nat)(mA:N<s.gN.length)(mU:∀ k,k<N->0<=(s.gN.getD k 0)/\(s.gN.getD k 0)<s.gP+(s.gI.length:Int))(hN:0<=(s.gN.getD N 0))(hM:s.gP+(s.gI.length:Int)<=(s.gN.getD N 0)):gJ 12 [jW s] (bP false):=by
 have sp:=sm.params;have so:=sm.gN;have sq:=sm.gI;exact aj call12 func12 (ae [tF 11 (s.gP<0) aD,tF 15 (8<s.gP) aD,tF 21 (200<(s.gI.length:Int)) aD,tF 27 (200<(s.gN.length:Int)) aD,tF 32 (s.ij<1) aD,tF 37 (4<s.ij) aD,ah 45 ((s.gN.length:Int) != s.ij) (by simp[e1]),tF 51 (4<(s.params.length:Int)) aD,gW (s.ij+(s.params.length:Int)) aD,ah 62 (s.gP != (s.ij+(s.params.length:Int))) (by simp[e2]),.s (Sp.iG (UR s) 0 s.gI.length aD (λx hx jf=>by
    have mT:=g.gI x;exact gX (ae [tT 68 ((x:Int)<s.gI.length) aD,iX (x:Int) (s.gI.length) aD,gW (s.gP+(x:Int)) aD,af [qq (s.gI.getD x iU),iP (s.gP+(x:Int))] (Ak _ _ mT),ah 81 (!(jz (s.gI.getD x iU) (s.gP+(x:Int)))) (by rw[iJ x aD];rfl),
     gW ((x:Int)+1) aD]) aG)
  (λhx=>by
    exact gX (ae [tF 68 ((s.gI.length:Int)<s.gI.length) aD]) aG) aK:iF 5 Tryz.f12 (UR s 0) (.exit 0) ⟨131,true,[(3,.box 3 0),(1,.box 1 0)],[(3,.cells 25 [iP s.gP,jC s.gI,jG s.gN]),(1,.cells 28 [iP s.gP,jC s.gI,jG s.gN,iP s.ij,jk s.params])]⟩) .nil,.s (Sp.iG (UY s N) 0 N aD (λx hx jf=>by
    have zN:=mU x aD;exact gX (ae [tT 86 ((x:Int)<s.gN.length) aD,iX (x:Int) (s.gN.length) aD,tF 94 ((s.gN.getD x 0)<0) aD,iX (x:Int) (s.gN.length) aD,
     gW (s.gP+(s.gI.length:Int)) aD,tF 107 ((s.gP+(s.gI.length:Int))<=(s.gN.getD x 0)) aD,gW ((x:Int)+1) aD]) aG)
  (λhx=>by
    exact gX (ae [tT 86 ((N:Int)<s.gN.length) aD,iX (N:Int) (s.gN.length) aD,tF 94 ((s.gN.getD N 0)<0) aD,iX (N:Int) (s.gN.length) aD,
    gW (s.gP+(s.gI.length:Int)) aD,tB 107 (bk hM)]) aG) aK:iF 10 Tryz.f12 (UY s N 0) .ret ⟨131,true,[(2,.e (bP false))],[]⟩) .nil]) 
def aeQ(s:jq)(g:s.jo)(sm:s.mo)(i0:0<=s.gP)(i8:s.gP<=8)(l1:s.gI.length<=200)(l2:s.gN.length<=200)(s1:1<=s.ij)(s4:s.ij<=4)(e1:(s.gN.length:Int)=s.ij)(e2:s.gP=s.ij+(s.params.length:Int))(p4:s.params.length<=4)(iJ:∀ k,k<s.gI.length->(jz (s.gI.getD k iU) (s.gP+(k:Int)))=true)(mU:∀ k,k<s.gN.length->0<=(s.gN.getD k 0)/\(s.gN.getD k 0)<s.gP+(s.gI.length:Int))(N:Nat)(mA:N<s.params.length)(o9:∀ k,k<N->ki (s.params.getD k iR)=true/\(s.params.getD k iR).all=false)(hN:(s.params.getD N iR).all=true):gJ 12 [jW s] (bP false):=by
 have sp:=sm.params;have so:=sm.gN;have sq:=sm.gI;exact aj call12 func12 (ae [tF 11 (s.gP<0) aD,tF 15 (8<s.gP) aD,tF 21 (200<(s.gI.length:Int)) aD,tF 27 (200<(s.gN.length:Int)) aD,tF 32 (s.ij<1) aD,tF 37 (4<s.ij) aD,ah 45 ((s.gN.length:Int) != s.ij) (by simp[e1]),tF 51 (4<(s.params.length:Int)) aD,gW (s.ij+(s.params.length:Int)) aD,ah 62 (s.gP != (s.ij+(s.params.length:Int))) (by simp[e2]),.s (Sp.iG (US s) 0 s.gI.length aD (λx hx jf=>by
    have mT:=g.gI x;exact gX (ae [tT 68 ((x:Int)<s.gI.length) aD,iX (x:Int) (s.gI.length) aD,gW (s.gP+(x:Int)) aD,af [qq (s.gI.getD x iU),iP (s.gP+(x:Int))] (Ak _ _ mT),ah 81 (!(jz (s.gI.getD x iU) (s.gP+(x:Int)))) (by rw[iJ x aD];rfl),
     gW ((x:Int)+1) aD]) aG)
  (λhx=>by
    exact gX (ae [tF 68 ((s.gI.length:Int)<s.gI.length) aD]) aG) aK:iF 5 Tryz.f12 (US s 0) (.exit 0) ⟨131,true,[(3,.box 3 0),(1,.box 1 0)],[(3,.cells 25 [iP s.gP,jC s.gI,jG s.gN]),(1,.cells 28 [iP s.gP,jC s.gI,jG s.gN,iP s.ij,jk s.params])]⟩) .nil,.s (Sp.iG (UZ s) 0 s.gN.length aD (λx hx jf=>by
    have zN:=mU x aD;exact gX (ae [tT 86 ((x:Int)<s.gN.length) aD,iX (x:Int) (s.gN.length) aD,tF 94 ((s.gN.getD x 0)<0) aD,iX (x:Int) (s.gN.length) aD,
     gW (s.gP+(s.gI.length:Int)) aD,tF 107 ((s.gP+(s.gI.length:Int))<=(s.gN.getD x 0)) aD,gW ((x:Int)+1) aD]) aG)
  (λhx=>by
    exact gX (ae [tF 86 ((s.gN.length:Int)<s.gN.length) aD]) aG) aK:iF 10 Tryz.f12 (UZ s 0) (.exit 2) ⟨131,true,[(1,.box 1 0)],[(1,.cells 28 [iP s.gP,jC s.gI,jG s.gN,iP s.ij,jk s.params])]⟩) .nil,.s (Sp.iG (U1 s N) 0 N aD (λx hx jf=>by
    have xd:=g.params x;exact gX (ae [tT 113 ((x:Int)<s.params.length) aD,iX (x:Int) (s.params.length) aD,ah 121 ((s.params.getD x iR).all) ((o9 x aD).2),
     iX (x:Int) (s.params.length) aD,af [kH (s.params.getD x iR)] (rH _ aE),ah 129 (!(ki (s.params.getD x iR))) (by rw[(o9 x aD).1];rfl),
     gW ((x:Int)+1) aD]) aG)
  (λhx=>by
    have xd:=g.params N;exact gX (ae [tT 113 ((N:Int)<s.params.length) aD,iX (N:Int) (s.params.length) aD,ag 121 ((s.params.getD N iR).all) hN]) aG) aK:iF 15 Tryz.f12 (U1 s N 0) .ret ⟨131,true,[(2,.e (bP false))],[]⟩) .nil]) 
def aeR(s:jq)(g:s.jo)(sm:s.mo)(i0:0<=s.gP)(i8:s.gP<=8)(l1:s.gI.length<=200)(l2:s.gN.length<=200)(s1:1<=s.ij)(s4:s.ij<=4)(e1:(s.gN.length:Int)=s.ij)(e2:s.gP=s.ij+(s.params.length:Int))(p4:s.params.length<=4)(iJ:∀ k,k<s.gI.length->(jz (s.gI.getD k iU) (s.gP+(k:Int)))=true)(mU:∀ k,k<s.gN.length->0<=(s.gN.getD k 0)/\(s.gN.getD k 0)<s.gP+(s.gI.length:Int))(N:Nat)(mA:N<s.params.length)(o9:∀ k,k<N->ki (s.params.getD k iR)=true/\(s.params.getD k iR).all=false)(hN:(s.params.getD N iR).all=false)(hM:ki (s.params.getD N iR)=false):gJ 12 [jW s] (bP false):=by
 have sp:=sm.params;have so:=sm.gN;have sq:=sm.gI;exact aj call12 func12 (ae [tF 11 (s.gP<0) aD,tF 15 (8<s.gP) aD,tF 21 (200<(s.gI.length:Int)) aD,tF 27 (200<(s.gN.length:Int)) aD,tF 32 (s.ij<1) aD,tF 37 (4<s.ij) aD,ah 45 ((s.gN.length:Int) != s.ij) (by simp[e1]),tF 51 (4<(s.params.length:Int)) aD,gW (s.ij+(s.params.length:Int)) aD,ah 62 (s.gP != (s.ij+(s.params.length:Int))) (by simp[e2]),.s (Sp.iG (UT s) 0 s.gI.length aD (λx hx jf=>by
    have mT:=g.gI x;exact gX (ae [tT 68 ((x:Int)<s.gI.length) aD,iX (x:Int) (s.gI.length) aD,gW (s.gP+(x:Int)) aD,af [qq (s.gI.getD x iU),iP (s.gP+(x:Int))] (Ak _ _ mT),ah 81 (!(jz (s.gI.getD x iU) (s.gP+(x:Int)))) (by rw[iJ x aD];rfl),
     gW ((x:Int)+1) aD]) aG)
  (λhx=>by
    exact gX (ae [tF 68 ((s.gI.length:Int)<s.gI.length) aD]) aG) aK:iF 5 Tryz.f12 (UT s 0) (.exit 0) ⟨131,true,[(3,.box 3 0),(1,.box 1 0)],[(3,.cells 25 [iP s.gP,jC s.gI,jG s.gN]),(1,.cells 28 [iP s.gP,jC s.gI,jG s.gN,iP s.ij,jk s.params])]⟩) .nil,.s (Sp.iG (U2 s) 0 s.gN.length aD (λx hx jf=>by
    have zN:=mU x aD;exact gX (ae [tT 86 ((x:Int)<s.gN.length) aD,iX (x:Int) (s.gN.length) aD,tF 94 ((s.gN.getD x 0)<0) aD,iX (x:Int) (s.gN.length) aD,
     gW (s.gP+(s.gI.length:Int)) aD,tF 107 ((s.gP+(s.gI.length:Int))<=(s.gN.getD x 0)) aD,gW ((x:Int)+1) aD]) aG)
  (λhx=>by
    exact gX (ae [tF 86 ((s.gN.length:Int)<s.gN.length) aD]) aG) aK:iF 10 Tryz.f12 (U2 s 0) (.exit 2) ⟨131,true,[(1,.box 1 0)],[(1,.cells 28 [iP s.gP,jC s.gI,jG s.gN,iP s.ij,jk s.params])]⟩) .nil,.s (Sp.iG (U3 s N) 0 N aD (λx hx jf=>by
    have xd:=g.params x;exact gX (ae [tT 113 ((x:Int)<s.params.length) aD,iX (x:Int) (s.params.length) aD,ah 121 ((s.params.getD x iR).all) ((o9 x aD).2),
     iX (x:Int) (s.params.length) aD,af [kH (s.params.getD x iR)] (rH _ aE),ah 129 (!(ki (s.params.getD x iR))) (by rw[(o9 x aD).1];rfl),
     gW ((x:Int)+1) aD]) aG)
  (λhx=>by
    have xd:=g.params N;exact gX (ae [tT 113 ((N:Int)<s.params.length) aD,iX (N:Int) (s.params.length) aD,ah 121 ((s.params.getD N iR).all) hN,iX (N:Int) (s.params.length) aD,af [kH (s.params.getD N iR)] (rH _ aE),ag 129 (!(ki (s.params.getD N iR))) (by rw[hM];rfl)]) aG) aK:iF 15 Tryz.f12 (U3 s N 0) .ret ⟨131,true,[(2,.e (bP false))],[]⟩) .nil]) 
def aeS(s:jq)(g:s.jo)(sm:s.mo)(i0:0<=s.gP)(i8:s.gP<=8)(l1:s.gI.length<=200)(l2:s.gN.length<=200)(s1:1<=s.ij)(s4:s.ij<=4)(e1:(s.gN.length:Int)=s.ij)(e2:s.gP=s.ij+(s.params.length:Int))(p4:s.params.length<=4)(iJ:∀ k,k<s.gI.length->(jz (s.gI.getD k iU) (s.gP+(k:Int)))=true)(mU:∀ k,k<s.gN.length->0<=(s.gN.getD k 0)/\(s.gN.getD k 0)<s.gP+(s.gI.length:Int))(o9:∀ k,k<s.params.length->ki (s.params.getD k iR)=true/\(s.params.getD k iR).all=false):gJ 12 [jW s] (bP true):=by
 have sp:=sm.params;have so:=sm.gN;have sq:=sm.gI;exact aj call12 func12 (ae [tF 11 (s.gP<0) aD,tF 15 (8<s.gP) aD,tF 21 (200<(s.gI.length:Int)) aD,tF 27 (200<(s.gN.length:Int)) aD,tF 32 (s.ij<1) aD,tF 37 (4<s.ij) aD,ah 45 ((s.gN.length:Int) != s.ij) (by simp[e1]),tF 51 (4<(s.params.length:Int)) aD,gW (s.ij+(s.params.length:Int)) aD,ah 62 (s.gP != (s.ij+(s.params.length:Int))) (by simp[e2]),.s (Sp.iG (UU s) 0 s.gI.length aD (λx hx jf=>by
    have mT:=g.gI x;exact gX (ae [tT 68 ((x:Int)<s.gI.length) aD,iX (x:Int) (s.gI.length) aD,gW (s.gP+(x:Int)) aD,af [qq (s.gI.getD x iU),iP (s.gP+(x:Int))] (Ak _ _ mT),ah 81 (!(jz (s.gI.getD x iU) (s.gP+(x:Int)))) (by rw[iJ x aD];rfl),
     gW ((x:Int)+1) aD]) aG)
  (λhx=>by
    exact gX (ae [tF 68 ((s.gI.length:Int)<s.gI.length) aD]) aG) aK:iF 5 Tryz.f12 (UU s 0) (.exit 0) ⟨131,true,[(3,.box 3 0),(1,.box 1 0)],[(3,.cells 25 [iP s.gP,jC s.gI,jG s.gN]),(1,.cells 28 [iP s.gP,jC s.gI,jG s.gN,iP s.ij,jk s.params])]⟩) .nil,.s (Sp.iG (U4 s) 0 s.gN.length aD (λx hx jf=>by
    have zN:=mU x aD;exact gX (ae [tT 86 ((x:Int)<s.gN.length) aD,iX (x:Int) (s.gN.length) aD,tF 94 ((s.gN.getD x 0)<0) aD,iX (x:Int) (s.gN.length) aD,
     gW (s.gP+(s.gI.length:Int)) aD,tF 107 ((s.gP+(s.gI.length:Int))<=(s.gN.getD x 0)) aD,gW ((x:Int)+1) aD]) aG)
  (λhx=>by
    exact gX (ae [tF 86 ((s.gN.length:Int)<s.gN.length) aD]) aG) aK:iF 10 Tryz.f12 (U4 s 0) (.exit 2) ⟨131,true,[(1,.box 1 0)],[(1,.cells 28 [iP s.gP,jC s.gI,jG s.gN,iP s.ij,jk s.params])]⟩) .nil,.s (Sp.iG (U5 s) 0 s.params.length aD (λx hx jf=>by
    have xd:=g.params x;exact gX (ae [tT 113 ((x:Int)<s.params.length) aD,iX (x:Int) (s.params.length) aD,ah 121 ((s.params.getD x iR).all) ((o9 x aD).2),
     iX (x:Int) (s.params.length) aD,af [kH (s.params.getD x iR)] (rH _ aE),ah 129 (!(ki (s.params.getD x iR))) (by rw[(o9 x aD).1];rfl),
     gW ((x:Int)+1) aD]) aG)
  (λhx=>by
    exact gX (ae [tF 113 ((s.params.length:Int)<s.params.length) aD]) aG) aK:iF 15 Tryz.f12 (U5 s 0) (.exit 4) ⟨131,true,[],[]⟩) .nil]) 
def Ed(s:jq)(g:s.jo)(sm:s.mo):gJ 12 [jW s] (bP (my s)):=by
 by_cases hc:0<=s.gP/\s.gP<=8/\s.gI.length<=200/\s.gN.length<=200/\1<=s.ij/\s.ij<=4/\(s.gN.length:Int)=s.ij/\s.params.length<=4/\s.gP=s.ij+(s.params.length:Int)
 rotate_left
 .rw [show my s=false from ag7 hc];exact aeM s g sm hc
 obtain⟨i0,i8,l1,l2,s1,s4,e1,p4,e2⟩:=hc;by_cases c2:En s=true
 rotate_left
 .rw [show my s=false by unfold my;rw[bc c2];simp];obtain⟨N,n1,n2,n3⟩:=xV c2;exact aeN s g sm i0 i8 l1 l2 s1 s4 e1 e2 p4 N n1 (λk hk=>by simpa using n3 k hk) (by simpa using n2)
 have iJ:∀ k,k<s.gI.length->jz (s.gI.getD k iU) (s.gP+(k:Int))=true:=λk hk=>bS.1 c2 k (bD.2 hk)
 by_cases c3:uI s=true
 rotate_left
 .rw [show my s=false by unfold my;rw[bc c3];simp];obtain⟨N,n1,n2,n3⟩:=xV c3;have mU:∀ k,k<N->0<=s.gN.getD k 0/\s.gN.getD k 0<s.gP+(s.gI.length:Int):=λk hk=>by simpa[uD]using n3 k hk
  have hN:¬(0<=s.gN.getD N 0/\s.gN.getD N 0<s.gP+(s.gI.length:Int)):=λq=>by
   rw[show uD s (s.gN.getD N 0)=true from bk q]at n2;cases n2
  by_cases h0:s.gN.getD N 0<0
  .exact aeO s g sm i0 i8 l1 l2 s1 s4 e1 e2 p4 iJ N n1 mU h0
  .exact aeP s g sm i0 i8 l1 l2 s1 s4 e1 e2 p4 iJ N n1 mU aD aD 
 have mU:∀ k,k<s.gN.length->0<=s.gN.getD k 0/\s.gN.getD k 0<s.gP+(s.gI.length:Int):=λk hk=>by simpa[uD]using List.all_eq_true.1 c3 k (bD.2 hk)
 by_cases c4:Cl s=true
 .rw [show my s=true by unfold my;rw[bk (⟨i0,i8,l1,l2⟩:_/\_),c2,c3,bk (⟨s1,s4,e1,e2,p4⟩:_/\_),c4];rfl];exact aeS s g sm i0 i8 l1 l2 s1 s4 e1 e2 p4 iJ mU λk hk=>by simpa[n6]using List.all_eq_true.1 c4 k (bD.2 hk)
 .rw [show my s=false by unfold my;rw[bc c4];simp];obtain⟨N,n1,n2,n3⟩:=xV c4;have o9:∀ k,k<N->ki (s.params.getD k iR)=true/\(s.params.getD k iR).all=false:=λk hk=>by simpa[n6]using n3 k hk
  cases ha:(s.params.getD N iR).all with
  |true=>exact aeQ s g sm i0 i8 l1 l2 s1 s4 e1 e2 p4 iJ mU N n1 o9 ha
  |false=>exact aeR s g sm i0 i8 l1 l2 s1 s4 e1 e2 p4 iJ mU N n1 o9 ha (by
   cases hk:ki (s.params.getD N iR)with
   |false=>rfl
   |true=>rw[show n6 (s.params.getD N iR)=true by unfold n6;rw[hk,ha];rfl]at n2;cases n2)
def ae9(s:jq)(g:s.jo)(sm:s.mo)(b:List RI)(gb:∀ i,(b.getD i iR).jo)(qA:b.length<=1000)(hs:my s=false):gJ 31 [jW s,jk b] (bP false):=
 aj call31 func31 (ae [af [jW s] (Ed _ g sm),ag 8 (!(my s)) (by rw[hs];rfl)]) 
def afa(s:jq)(g:s.jo)(sm:s.mo)(b:List RI)(gb:∀ i,(b.getD i iR).jo)(qA:b.length<=1000)(hs:my s=true)(hl:¬(b.length:Int)=s.ij):gJ 31 [jW s,jk b] (bP false):=
 aj call31 func31 (ae [af [jW s] (Ed _ g sm),ah 8 (!(my s)) (by rw[hs];rfl),ag 14 ((b.length:Int) != s.ij) (by simpa using hl)]) 
def afb(s:jq)(g:s.jo)(sm:s.mo)(b:List RI)(gb:∀ i,(b.getD i iR).jo)(qA:b.length<=1000)(hs:my s=true)(hl:(b.length:Int)=s.ij)(N:Nat)(mA:N<b.length)(o9:∀ k,k<N->ki (b.getD k iR)=true/\(b.getD k iR).all=false)(hN:(b.getD N iR).all=true):gJ 31 [jW s,jk b] (bP false):=
 aj call31 func31 (ae [af [jW s] (Ed _ g sm),ah 8 (!(my s)) (by rw[hs];rfl),ah 14 ((b.length:Int) != s.ij) (by simp[hl]),.s (Sp.iG (TN s b N) 0 N aD (λx hx jf=>by
    have xd:=gb x;exact gX (ae [tT 19 ((x:Int)<b.length) aD,iX (x:Int) (b.length) aD,ah 26 ((b.getD x iR).all) ((o9 x aD).2),iX (x:Int) (b.length) aD,af [kH (b.getD x iR)] (rH _ aE),ah 33 (!(ki (b.getD x iR))) (by rw[(o9 x aD).1];rfl),gW ((x:Int)+1) aD]) aG)
  (λhx=>by
    have xd:=gb N;exact gX (ae [tT 19 ((N:Int)<b.length) aD,iX (N:Int) (b.length) aD,ag 26 ((b.getD N iR).all) hN]) aG) aK:iF 4 Tryz.f31 (TN s b N 0) .ret ⟨35,true,[(4,.e (bP false))],[]⟩) .nil]) 
def afc(s:jq)(g:s.jo)(sm:s.mo)(b:List RI)(gb:∀ i,(b.getD i iR).jo)(qA:b.length<=1000)(hs:my s=true)(hl:(b.length:Int)=s.ij)(N:Nat)(mA:N<b.length)(o9:∀ k,k<N->ki (b.getD k iR)=true/\(b.getD k iR).all=false)(hN:(b.getD N iR).all=false)(hM:ki (b.getD N iR)=false):gJ 31 [jW s,jk b] (bP false):=
 aj call31 func31 (ae [af [jW s] (Ed _ g sm),ah 8 (!(my s)) (by rw[hs];rfl),ah 14 ((b.length:Int) != s.ij) (by simp[hl]),.s (Sp.iG (TO s b N) 0 N aD (λx hx jf=>by
    have xd:=gb x;exact gX (ae [tT 19 ((x:Int)<b.length) aD,iX (x:Int) (b.length) aD,ah 26 ((b.getD x iR).all) ((o9 x aD).2),iX (x:Int) (b.length) aD,af [kH (b.getD x iR)] (rH _ aE),ah 33 (!(ki (b.getD x iR))) (by rw[(o9 x aD).1];rfl),gW ((x:Int)+1) aD]) aG)
  (λhx=>by
    have xd:=gb N;exact gX (ae [tT 19 ((N:Int)<b.length) aD,iX (N:Int) (b.length) aD,ah 26 ((b.getD N iR).all) hN,iX (N:Int) (b.length) aD,af [kH (b.getD N iR)] (rH _ aE),ag 33 (!(ki (b.getD N iR))) (by rw[hM];rfl)]) aG) aK:iF 4 Tryz.f31 (TO s b N 0) .ret ⟨35,true,[(4,.e (bP false))],[]⟩) .nil]) 
def afd(s:jq)(g:s.jo)(sm:s.mo)(b:List RI)(gb:∀ i,(b.getD i iR).jo)(qA:b.length<=1000)(hs:my s=true)(hl:(b.length:Int)=s.ij)(o9:∀ k,k<b.length->ki (b.getD k iR)=true/\(b.getD k iR).all=false):gJ 31 [jW s,jk b] (bP true):=
 aj call31 func31 (ae [af [jW s] (Ed _ g sm),ah 8 (!(my s)) (by rw[hs];rfl),ah 14 ((b.length:Int) != s.ij) (by simp[hl]),.s (Sp.iG (TP s b) 0 b.length aD (λx hx jf=>by
    have xd:=gb x;exact gX (ae [tT 19 ((x:Int)<b.length) aD,iX (x:Int) (b.length) aD,ah 26 ((b.getD x iR).all) ((o9 x aD).2),iX (x:Int) (b.length) aD,af [kH (b.getD x iR)] (rH _ aE),ah 33 (!(ki (b.getD x iR))) (by rw[(o9 x aD).1];rfl),gW ((x:Int)+1) aD]) aG)
  (λhx=>by
    exact gX (ae [tF 19 ((b.length:Int)<b.length) aD]) aG) aK:iF 4 Tryz.f31 (TP s b 0) (.exit 0) ⟨35,true,[],[]⟩) .nil]) 
noncomputable def pV(s:jq)(b:List RI):Bool:=my s&&vP s.ij b
def B3(s:jq)(g:s.jo)(sm:s.mo)(b:List RI)(gb:∀ i,(b.getD i iR).jo)(qA:b.length<=1000):gJ 31 [jW s,jk b] (bP (pV s b)):=by
 unfold pV;cases hs:my s with
 |false=>exact ae9 s g sm b gb qA hs
 |true=>
  rw[er];by_cases hl:(b.length:Int)=s.ij
  rotate_left
  .rw [show vP s.ij b=false by unfold vP;rw[bl hl];rfl];exact afa s g sm b gb qA hs hl
  by_cases c4:((List.range b.length).all λi=>n6 (b.getD i iR))=true
  .rw [show vP s.ij b=true by unfold vP;rw[bk hl,c4];rfl];exact afd s g sm b gb qA hs hl λk hk=>by simpa[n6]using List.all_eq_true.1 c4 k (bD.2 hk)
  .rw [show vP s.ij b=false by unfold vP;rw[bc c4];simp];obtain⟨N,n1,n2,n3⟩:=xV c4;have o9:∀ k,k<N->ki (b.getD k iR)=true/\(b.getD k iR).all=false:=λk hk=>by simpa[n6]using n3 k hk
   cases ha:(b.getD N iR).all with
   |true=>exact afb s g sm b gb qA hs hl N n1 o9 ha
   |false=>exact afc s g sm b gb qA hs hl N n1 o9 ha (by
    cases hk:ki (b.getD N iR)with
    |false=>rfl
    |true=>rw[show n6 (b.getD N iR)=true by unfold n6;rw[hk,ha];rfl]at n2;cases n2)
def Uj(m:List (List RI))(x:Nat):PS:=⟨61,true,[(3,.e (iP x)),(0,.e (pR m))],[]⟩
def B7(m:List (List RI))(x:Nat)(y:Nat):PS:=⟨61,true,[(4,.e (iP y)),(3,.e (iP x)),(0,.e (pR m))],[]⟩
def Ui(m:List (List RI))(N:Nat)(x:Nat):PS:=⟨61,true,[(3,.e (iP x)),(0,.e (pR m))],[]⟩
def Uh(m:List (List RI))(N J:Nat)(x:Nat):PS:=⟨61,true,[(3,.e (iP x)),(0,.e (pR m))],[]⟩
def Ug(m:List (List RI))(N J:Nat)(y:Nat):PS:=⟨61,true,[(4,.e (iP y)),(3,.e (iP N)),(0,.e (pR m))],[]⟩
def afF(m:List (List RI))(g:vK m)(hl:m.length<=1000000)(nP:∀ i,(m.getD i []).length<=1000000)(n1:1<=m.length)(n8:m.length<=8)(k1:1<=(m.getD 0 []).length)(k8:(m.getD 0 []).length<=8)(pd:∀ i,i<m.length->(m.getD i []).length=(m.getD 0 []).length)(kf:∀ i,i<m.length->∀ j,j<(m.getD i []).length->ki ((m.getD i []).getD j iR)=true):gJ 221 [pR m] (bP true):=
 aj call221 func221 (ae [tF 7 ((m.length:Int)<1) aD,tF 11 (8<(m.length:Int)) aD,iX 0 (m.length) aD,tF 18 (((m.getD 0 []).length:Int)<1) aD,iX 0 (m.length) aD,tF 25 (8<((m.getD 0 []).length:Int)) aD,.s (Sp.iG (Uj m) 0 m.length aD (λx hx jf=>by
    have s6:=nP x;exact gX (ae [tT 30 ((x:Int)<m.length) aD,iX (x:Int) (m.length) aD,iX 0 (m.length) aD,ah 42 (((m.getD x []).length:Int) != ((m.getD 0 []).length:Int)) (pK (pd x aD)),.s (Sp.iG (B7 m x) 0 ((m.getD x []).length) aD (λy hy qf=>by
    exact gX (ae [iX (x:Int) (m.length) aD,tT 49 ((y:Int)<((m.getD x []).length:Int)) aD,iX (x:Int) (m.length) aD,iX (y:Int) ((m.getD x []).length) aD,.c (rH ((m.getD x []).getD y iR) (by first|assumption|exact g.at _ _)),ag 59 (ki ((m.getD x []).getD y iR)) (kf x aD y aD),gW ((y:Int)+1) aD]) aG)
  (λhy=>by
    exact gX (ae [iX (x:Int) (m.length) aD,tF 49 (((m.getD x []).length:Int)<((m.getD x []).length:Int)) aD]) aG) aK:iF 9 f221 (B7 m x 0) (.exit 2) ⟨61,true,[(3,.e (iP x)),(0,.e (pR m))],[]⟩) .nil,
     gW ((x:Int)+1) aD]) aG)
  (λhx=>by
    exact gX (ae [tF 30 ((m.length:Int)<m.length) aD]) aG) aK:iF 4 f221 (Uj m 0) (.exit 0) ⟨61,true,[],[]⟩) .nil]) 
def afE(m:List (List RI))(g:vK m)(hl:m.length<=1000000)(nP:∀ i,(m.getD i []).length<=1000000)(n1:1<=m.length)(n8:m.length<=8)(k1:1<=(m.getD 0 []).length)(k8:(m.getD 0 []).length<=8)(N:Nat)(hN:N<m.length)(pd:∀ i,i<N->(m.getD i []).length=(m.getD 0 []).length)(kf:∀ i,i<N->∀ j,j<(m.getD i []).length->ki ((m.getD i []).getD j iR)=true)(mS:(m.getD N []).length≠(m.getD 0 []).length):gJ 221 [pR m] (bP false):=
 aj call221 func221 (ae [tF 7 ((m.length:Int)<1) aD,tF 11 (8<(m.length:Int)) aD,iX 0 (m.length) aD,tF 18 (((m.getD 0 []).length:Int)<1) aD,iX 0 (m.length) aD,tF 25 (8<((m.getD 0 []).length:Int)) aD,.s (Sp.iG (Ui m N) 0 N aD (λx hx jf=>by
    have s6:=nP x;exact gX (ae [tT 30 ((x:Int)<m.length) aD,iX (x:Int) (m.length) aD,iX 0 (m.length) aD,ah 42 (((m.getD x []).length:Int) != ((m.getD 0 []).length:Int)) (pK (pd x aD)),.s (Sp.iG (B7 m x) 0 ((m.getD x []).length) aD (λy hy qf=>by
    exact gX (ae [iX (x:Int) (m.length) aD,tT 49 ((y:Int)<((m.getD x []).length:Int)) aD,iX (x:Int) (m.length) aD,iX (y:Int) ((m.getD x []).length) aD,.c (rH ((m.getD x []).getD y iR) (by first|assumption|exact g.at _ _)),ag 59 (ki ((m.getD x []).getD y iR)) (kf x aD y aD),gW ((y:Int)+1) aD]) aG)
  (λhy=>by
    exact gX (ae [iX (x:Int) (m.length) aD,tF 49 (((m.getD x []).length:Int)<((m.getD x []).length:Int)) aD]) aG) aK:iF 9 f221 (B7 m x 0) (.exit 2) ⟨61,true,[(3,.e (iP x)),(0,.e (pR m))],[]⟩) .nil,
     gW ((x:Int)+1) aD]) aG)
  (λhx=>by
    have s6:=nP N;exact gX (ae [tT 30 ((N:Int)<m.length) aD,iX (N:Int) (m.length) aD,iX 0 (m.length) aD,ag 42 (((m.getD N []).length:Int) != ((m.getD 0 []).length:Int)) (SK mS)]) aG) aK:iF 4 f221 (Ui m N 0) .ret ⟨61,true,[(2,.e (bP false))],[]⟩) .nil]) 
def afD(m:List (List RI))(g:vK m)(hl:m.length<=1000000)(nP:∀ i,(m.getD i []).length<=1000000)(n1:1<=m.length)(n8:m.length<=8)(k1:1<=(m.getD 0 []).length)(k8:(m.getD 0 []).length<=8)(N:Nat)(hN:N<m.length)(pd:∀ i,i<N->(m.getD i []).length=(m.getD 0 []).length)(kf:∀ i,i<N->∀ j,j<(m.getD i []).length->ki ((m.getD i []).getD j iR)=true)(hlen:(m.getD N []).length=(m.getD 0 []).length)(J:Nat)(hJ:J<(m.getD N []).length)(Kv:∀ j,j<J->ki ((m.getD N []).getD j iR)=true)(mS:ki ((m.getD N []).getD J iR)=false):gJ 221 [pR m] (bP false):=
 aj call221 func221 (ae [tF 7 ((m.length:Int)<1) aD,tF 11 (8<(m.length:Int)) aD,iX 0 (m.length) aD,tF 18 (((m.getD 0 []).length:Int)<1) aD,iX 0 (m.length) aD,tF 25 (8<((m.getD 0 []).length:Int)) aD,.s (Sp.iG (Uh m N J) 0 N aD (λx hx jf=>by
    have s6:=nP x;exact gX (ae [tT 30 ((x:Int)<m.length) aD,iX (x:Int) (m.length) aD,iX 0 (m.length) aD,ah 42 (((m.getD x []).length:Int) != ((m.getD 0 []).length:Int)) (pK (pd x aD)),.s (Sp.iG (B7 m x) 0 ((m.getD x []).length) aD (λy hy qf=>by
    exact gX (ae [iX (x:Int) (m.length) aD,tT 49 ((y:Int)<((m.getD x []).length:Int)) aD,iX (x:Int) (m.length) aD,iX (y:Int) ((m.getD x []).length) aD,.c (rH ((m.getD x []).getD y iR) (by first|assumption|exact g.at _ _)),ag 59 (ki ((m.getD x []).getD y iR)) (kf x aD y aD),gW ((y:Int)+1) aD]) aG)
  (λhy=>by
    exact gX (ae [iX (x:Int) (m.length) aD,tF 49 (((m.getD x []).length:Int)<((m.getD x []).length:Int)) aD]) aG) aK:iF 9 f221 (B7 m x 0) (.exit 2) ⟨61,true,[(3,.e (iP x)),(0,.e (pR m))],[]⟩) .nil,
     gW ((x:Int)+1) aD]) aG)
  (λhx=>by
    have s6:=nP N;exact gX (ae [tT 30 ((N:Int)<m.length) aD,iX (N:Int) (m.length) aD,iX 0 (m.length) aD,ah 42 (((m.getD N []).length:Int) != ((m.getD 0 []).length:Int)) (pK hlen),.s (Sp.iG (Ug m N J) 0 J aD (λy hy qf=>by
    exact gX (ae [iX (N:Int) (m.length) aD,tT 49 ((y:Int)<((m.getD N []).length:Int)) aD,iX (N:Int) (m.length) aD,iX (y:Int) ((m.getD N []).length) aD,.c (rH ((m.getD N []).getD y iR) (by first|assumption|exact g.at _ _)),ag 59 (ki ((m.getD N []).getD y iR)) (Kv y aD),gW ((y:Int)+1) aD]) aG)
  (λhy=>by
    exact gX (ae [iX (N:Int) (m.length) aD,tT 49 ((J:Int)<((m.getD N []).length:Int)) aD,iX (N:Int) (m.length) aD,iX (J:Int) ((m.getD N []).length) aD,.c (rH ((m.getD N []).getD J iR) (by first|assumption|exact g.at _ _)),ah 59 (ki ((m.getD N []).getD J iR)) mS]) aG) aK:iF 9 f221 (Ug m N J 0) .ret ⟨61,true,[(2,.e (bP false))],[]⟩) .nil]) aG) aK:iF 4 f221 (Uh m N J 0) .ret ⟨61,true,[(2,.e (bP false))],[]⟩) .nil]) 
def Uk(m:List (List RI))(g:vK m)(hl:m.length<=1000000)(nP:∀ i,(m.getD i []).length<=1000000):gJ 221 [pR m] (bP (qE m)):=by
 by_cases q1:m.length<1
 .exact aj call221 func221 (aa [tT 7 ((m.length:Int)<1) aD]<|rQ (bP false) (bP (qE m)) (by rw[wk (λq=>by have:=q.n1;have:=q.n8;have:=q.k1;have:=q.k8;omega)])) 
 by_cases q2:8<m.length
 .exact aj call221 func221 (aa [tF 7 ((m.length:Int)<1) aD,tT 11 (8<(m.length:Int)) aD]<|rQ (bP false) (bP (qE m)) (by rw[wk (λq=>by have:=q.n1;have:=q.n8;have:=q.k1;have:=q.k8;omega)])) 
 by_cases q3:(m.getD 0 []).length<1
 .exact aj call221 func221 (aa [tF 7 ((m.length:Int)<1) aD,tF 11 (8<(m.length:Int)) aD,iX 0 (m.length) aD,tT 18 (((m.getD 0 []).length:Int)<1) aD]<|rQ (bP false) (bP (qE m)) (by rw[wk (λq=>by have:=q.n1;have:=q.n8;have:=q.k1;have:=q.k8;omega)])) 
 by_cases q4:8<(m.getD 0 []).length
 .exact aj call221 func221 (aa [tF 7 ((m.length:Int)<1) aD,tF 11 (8<(m.length:Int)) aD,iX 0 (m.length) aD,tF 18 (((m.getD 0 []).length:Int)<1) aD,iX 0 (m.length) aD,tT 25 (8<((m.getD 0 []).length:Int)) aD]<|rQ (bP false) (bP (qE m)) (by rw[wk (λq=>by have:=q.n1;have:=q.n8;have:=q.k1;have:=q.k8;omega)])) 
 by_cases hb:∃ N,N<m.length/\(decide ((m.getD N []).length≠(m.getD 0 []).length)||(List.range (m.getD N []).length).any λj=>!(ki ((m.getD N []).getD j iR)))=true
 .obtain ⟨N,hN,mS,mJ⟩:=pX hb;have pd:∀ i,i<N->(m.getD i []).length=(m.getD 0 []).length:=λi hi=>by
   have:=mJ i hi;simp only[cR,decide_not,fK,gH,cF]at this;exact this.1
  have kf:∀ i,i<N->∀ j,j<(m.getD i []).length->ki ((m.getD i []).getD j iR)=true:=λi hi j hj=>by
   have:=mJ i hi;rw[fK]at this;have:=c9.1 this.2 j (bD.2 hj);simpa using this
  have mh:¬AU m:=λq=>by
   rw[dJ]at mS;rcases mS with h|h
   .exact (cK h) (q.row N hN)
   .obtain ⟨j,hj,h⟩:=cE.1 h;have:=pM.2 (q.ok N hN j (bD.1 hj));rw[this]at h;cases h
  rw[wk mh];by_cases hlen:(m.getD N []).length=(m.getD 0 []).length
  .have hex:∃ j,j<(m.getD N []).length/\(!(ki ((m.getD N []).getD j iR)))=true:=by
    rw[dJ]at mS;rcases mS with h|h
    .exact absurd hlen (cK h)
    .obtain ⟨j,hj,h⟩:=cE.1 h;exact⟨j,bD.1 hj,h⟩
   obtain⟨J,hJ,J7,Kq⟩:=pX hex;exact afD m g hl nP aD aD aD aD N hN pd kf hlen J hJ (λj hj=>by simpa using Kq j hj) (by simpa using J7)
  .exact afE m g hl nP aD aD aD aD N hN pd kf hlen
 .have pd:∀ i,i<m.length->(m.getD i []).length=(m.getD 0 []).length:=λi hi=>by
   apply bY;intro q;exact hb ⟨i,hi,by rw[dJ];exact .inl (bk q)⟩
  have kf:∀ i,i<m.length->∀ j,j<(m.getD i []).length->ki ((m.getD i []).getD j iR)=true:=λi hi j hj=>by
   cases hq:ki ((m.getD i []).getD j iR)with
   |true=>rfl
   |false=>exact absurd ⟨i,hi,by rw[dJ];exact .inr (cE.2 ⟨j,bD.2 hj,by rw[hq];rfl⟩)⟩ hb
  rw[Ad.2 ⟨aD,aD,aD,aD,pd,λi hi j hj=>pM.1 (kf i hi j hj)⟩];exact afF m g hl nP aD aD aD aD pd kf
def OV(m:List (List Iv))(g:FuncId)(cap:List E)(F:Nat->Nat->Iv)(x:Nat):PS:=⟨44,true,[(15,.e (iP x)),(14,.e (iP m.length)),(13,.e (gV m)),(5,.own 12),(1,.e (.fn g cap))],[(12,.iH true 26 46 m.length 7 (iS (iL m.length (λq=>(m.getD q []).length) F x 0)) (jH (iL m.length (λq=>(m.getD q []).length) F x 0)) .none)]⟩
def OW(m:List (List Iv))(g:FuncId)(cap:List E)(F:Nat->Nat->Iv)(x:Nat)(k:Nat):PS:=⟨44,true,[(22,.e (iP k)),(21,.e (iP ((m.getD x []).length:Int))),(20,.e (ic (m.getD x []))),(6,.e (iP x)),(15,.e (iP x)),(14,.e (iP m.length)),(13,.e (gV m)),(5,.own 12),(1,.e (.fn g cap))],[(12,.iH true 26 46 m.length 7 (iS (iL m.length (λq=>(m.getD q []).length) F x k)) (jH (iL m.length (λq=>(m.getD q []).length) F x k)) .none)]⟩
def Sn(m:List (List Iv))(g:FuncId)(cap:List E)(F:Nat->Nat->Iv)(hl:m.length<=1000)(hr:∀ i,(m.getD i []).length<=1000)(hf:∀ i j,i<m.length->j<(m.getD i []).length->gJ g (iP (i:Int)::iP (j:Int)::gR ((m.getD i []).getD j gL)::cap) (gR (F i j))):gJ 207 [gV m,.fn g cap] (gV (mn m.length (λq=>(m.getD q []).length) F)):=
 aj call207 func207 (aa [.a (aD:0<=((m.length:Int):Int)/\((m.length:Int):Int)<=((m.length:Int):Int)),.a (aD:((24:Nat):Int)*(m.length:Int)<=281474976710656/\((m.length:Int):Int)<=9223372036854775807),.s (Sp.iG (OV m g cap F) 0 m.length aD (λx hx jf=>by
    have vn:=hr x;exact gX (aa [tT 16 ((x:Int)<m.length) aD,iX (x:Int) (m.length) aD,.s (Sp.iG (OW m g cap F x) 0 ((m.getD x []).length) aD (λk hk oJ=>by
    have vn:=hr x;have hle:iS (iL m.length (λq=>(m.getD q []).length) F x k) x=k:=DJ aD ;have h1:=nu (F x k);exact gX (aa [tT 23 ((k:Int)<((m.getD x []).length:Int)) aD,iX (k:Int) ((m.getD x []).length) aD,iX (x:Int) (m.length) aD,.a (aD:x<m.length),.c (hf x k aD aD:gJ g ((iP x)::(iP k)::(gR ((m.getD x []).getD k gL))::cap) _),.o 38 (.e (lD _):ai (.sl true 1 7 λi_ j_=>(iA (F x k)).getD (i_*7+j_) (.v (.bool false))) (ic [F x k])),.a (aD:x<m.length),.a (aD:((iS (iL m.length (λq=>(m.getD q []).length) F x k)) x+[F x k].length)*88<=140737488355328),iX (x:Int) (m.length) aD,.a (rfl:x=x),.a (rfl:x=x),.a (aD:x<m.length),
     gW ((k:Int)+1) aD]<|.e (ae [.b 12 (Ck rfl aD aD rfl:Bx.le (.iH true 26 46 m.length 7 (λq=>if q=x then(iS (iL m.length (λq=>(m.getD q []).length) F x k)) q+[F x k].length else(iS (iL m.length (λq=>(m.getD q []).length) F x k)) q) (λq i j=>if q=x then(if i<(iS (iL m.length (λq=>(m.getD q []).length) F x k)) q then(jH (iL m.length (λq=>(m.getD q []).length) F x k)) q i j else(E.ke (ic [F x k])) (i-(iS (iL m.length (λq=>(m.getD q []).length) F x k)) q) j)else(jH (iL m.length (λq=>(m.getD q []).length) F x k)) q i j) .none) (.iH true 26 46 m.length 7 (iS (iL m.length (λq=>(m.getD q []).length) F x (k+1))) (jH (iL m.length (λq=>(m.getD q []).length) F x (k+1))) .none))])) aG)
  (λhk=>by
    exact gX (ae [tF 23 (((m.getD x []).length:Int)<((m.getD x []).length:Int)) aD]) aG) aK:iF 6 f207 (OW m g cap F x 0) (.exit 2) ⟨44,true,[(15,.e (iP x)),(14,.e (iP m.length)),(13,.e (gV m)),(5,.own 12),(1,.e (.fn g cap))],[(12,.iH true 26 46 m.length 7 (iS (iL m.length (λq=>(m.getD q []).length) F x ((m.getD x []).length))) (jH (iL m.length (λq=>(m.getD q []).length) F x ((m.getD x []).length))) .none)]⟩) .nil,
     gW ((x:Int)+1) aD]<|.e (ae [.b 12 (Er rfl:Bx.le (.iH true 26 46 m.length 7 (iS (iL m.length (λq=>(m.getD q []).length) F x ((m.getD x []).length))) (jH (iL m.length (λq=>(m.getD q []).length) F x ((m.getD x []).length))) .none) (.iH true 26 46 m.length 7 (iS (iL m.length (λq=>(m.getD q []).length) F (x+1) 0)) (jH (iL m.length (λq=>(m.getD q []).length) F (x+1) 0)) .none))])) aG)
  (λhx=>by
    exact gX (ae [tF 16 ((m.length:Int)<m.length) aD]) aG) aK:iF 3 f207 (OV m g cap F 0) (.exit 0) ⟨44,true,[(5,.own 12)],[(12,.iH true 26 46 m.length 7 (iS (iL m.length (λq=>(m.getD q []).length) F m.length 0)) (jH (iL m.length (λq=>(m.getD q []).length) F m.length 0)) .none)]⟩) (ae [.b 12 (Ep rfl:Bx.le (.iH true 26 46 m.length 7 (λ_=>0) (λ_ _ _=>.any) .none) (.iH true 26 46 m.length 7 (iS (iL m.length (λq=>(m.getD q []).length) F 0 0)) (jH (iL m.length (λq=>(m.getD q []).length) F 0 0)) .none))])]<|rR (gV (mn m.length (λq=>(m.getD q []).length) F)) (by
      rw[<-E3];exact BL (E4 _ _ _ _ _).symm:E.le (.sl true m.length 1 λk_ _=>.sl true ((iS (iL m.length (λq=>(m.getD q []).length) F m.length 0)) k_) 7 ((jH (iL m.length (λq=>(m.getD q []).length) F m.length 0)) k_)) (gV (mn m.length (λq=>(m.getD q []).length) F)))) 
def Cc(m:List (List Iv))(i:Nat):(qo m).getD i []=sJ (m.getD i []):=by
 unfold qo;rw[bn,bn,cD];cases m[i]? <;> rfl
def Fp.iY.wW{m:List (List Iv)}{n k:Nat}(h:iY m n k):vK (qo m):=by
 intro r hr x hx;obtain⟨r',h1,rfl⟩:=cw.1 hr;obtain⟨x',h2,rfl⟩:=cw.1 hx;exact(h.ok _ h1 _ h2).wW
def Fp.iY.Mg{m:List (List Iv)}{n k:Nat}(h:iY m n k):AU (qo m):=by
 have hl:(qo m).length=n:=by rw[<-h.iH];simp[qo]
 have pd:∀ i,i<n->((qo m).getD i []).length=k:=λi hi=>by rw[Cc,<-h.kS hi];simp[sJ]
 have h1:=h.n1;refine⟨by have:=h.n1;omega,by have:=h.n8;omega,by rw[pd 0 aD];exact h.k1,by rw[pd 0 aD];exact h.k8,λi hi=>by rw[pd 0 aD,pd i aD],λi hi j hj=>?_⟩;have lL:i<n:= aD ;rw[pd i lL]at hj;rw[Cc,PM];exact(h.mF lL hj).BS
def wm(m:List (List Iv))(n k:Nat)(h:iY m n k):gJ 164 [gV m] (bP true):=by
 have:=adf (qo m) h.wW (by have:=h.n8;simp[qo,h.iH];omega) (λi=>by rw[Cc];have:=h.yE i;simp only[sJ,cr];omega);rwa[Ad.2 h.Mg,La]at this
def ZG(i j:Nat)(x:Iv)(b:List (List Iv))(p:Nat)(hx:x.gQ)(hy:((b.getD i []).getD j gL).gQ)(hi:i<b.length)(hj:j<(b.getD i []).length)(ie:8<=p)(gS:p<=512):gJ 270 [iP i,iP j,gR x,(.jN 1 λj_=>[.fn 78 []].getD j_ .any),(.jN 1 λj_=>[gV b].getD j_ .any),(.jN 1 λj_=>[iP p].getD j_ .any)] (gR (jx x ((b.getD i []).getD j gL) p)):=
 aj call270 func270 (ae [iX (i:Int) (b.length) aD,iX (j:Int) ((b.getD i []).length) aD,.c (xr x ((b.getD i []).getD j gL) p aE aE aD aD)]) 
def ZH(a b:List (List Iv))(n k p:Nat)(ga:iY a n k)(gb:iY b n k)(ie:8<=p)(gS:p<=512):gJ 211 [gV a,gV b,iP p,.fn 78 []] (.hH [gV (mn a.length (λq=>(a.getD q []).length) (λi j=>jx ((a.getD i []).getD j gL) ((b.getD i []).getD j gL) p)),iP 0]):=by
 have ra:=ga.iH;have rb:=gb.iH;have n1:=ga.n1;have n8:=ga.n8;have la:=ga.kS (aD:0<n);have lb:=gb.kS (aD:0<n);exact aj call211 func211 (ae [af [gV a] (wm _ _ _ aE),af [gV b] (wm _ _ _ aE),af [iP p] (BN _),ag 21 (jV (p:Int)) (mm.2 ⟨aD,aD⟩),ah 28 ((a.length:Int) != (b.length:Int)) (pK aD),iX 0 (a.length) aD,iX 0 (b.length) aD,ah 38 (((a.getD 0 []).length:Int) != ((b.getD 0 []).length:Int)) (pK aD),.c (Sn a 270 [(.jN 1 λj_=>[.fn 78 []].getD j_ .any),(.jN 1 λj_=>[gV b].getD j_ .any),(.jN 1 λj_=>[iP p].getD j_ .any)] (λi j=>jx ((a.getD i []).getD j gL) ((b.getD i []).getD j gL) p) aD (λi=>bM (ga.yE i) aF) (λi j hi hj=>ZG _ _ _ _ _ (ga.mF aD (by rw[ga.kS aD]at hj;exact hj)) (gb.mF aD (by rw[ga.kS aD]at hj;exact hj)) aD (by rw[gb.kS aD];rw[ga.kS aD]at hj;exact hj) ie gS))]) 
def Sk(a b:List (List Iv))(n k p:Nat)(ga:iY a n k)(gb:iY b n k)(ie:8<=p)(gS:p<=512):gJ 130 [gV a,gV b,iP p] (.hH [gV (tN a b p),iP 0]):=
 aj call130 func130 (aa [.c (ZH a b n k p ga gb ie gS)]<|rQ (.hH [gV (mn a.length (λq=>(a.getD q []).length) (λi j=>jx ((a.getD i []).getD j gL) ((b.getD i []).getD j gL) p)),iP 0]) (.hH [gV (tN a b p),iP 0]) (by rw[MH ga gb])) 
abbrev pD(a:List (List Iv))(b:List (List Iv))(p):=λi j=>kY (λq=>(a.getD i []).getD q gL) (λq=>(b.getD q []).getD j gL) p ((a.getD i []).length-1)
abbrev Is(a:List (List Iv))(x)(b:List (List Iv))(k)(p):=kY (λq=>(a.getD x []).getD q gL) (λq=>(b.getD q []).getD k gL) p ((a.getD x []).length-1)
def OG(r:List Iv)(g:FuncId)(cap:List E)(Y:Nat->Iv)(p:Nat)(c:Nat):PS:=⟨35,true,[(8,.e (iP ((c+1:Nat):Int))),(7,.box 7 0),(6,.box 6 0),(0,.e (ic r)),(1,.e (.fn g cap)),(2,.e (iP p))],[(7,.cells 46 (iA (kY (λq=>r.getD q gL) Y p c))),(6,.cells 46 ar)]⟩
def SB(a b:List (List Iv))(p:Nat)(x:Nat):PS:=⟨66,true,[(37,.e (iP x)),(36,.e (iP a.length)),(8,.own 34),(4,.box 4 0),(0,.e (gV a)),(2,.e (iP p))],[(34,.iH true 26 46 a.length 7 (iS (iL a.length (λ_=>(b.getD 0 []).length) (pD a b p) x 0)) (jH (iL a.length (λ_=>(b.getD 0 []).length) (pD a b p) x 0)) .none),(4,.cells 48 [gV b])]⟩
def SC(a b:List (List Iv))(p:Nat)(x:Nat)(k:Nat):PS:=⟨66,true,[(44,.e (iP k)),(43,.e (iP ((b.getD 0 []).length:Int))),(9,.e (iP x)),(37,.e (iP x)),(36,.e (iP a.length)),(8,.own 34),(4,.box 4 0),(0,.e (gV a)),(2,.e (iP p))],[(34,.iH true 26 46 a.length 7 (iS (iL a.length (λ_=>(b.getD 0 []).length) (pD a b p) x k)) (jH (iL a.length (λ_=>(b.getD 0 []).length) (pD a b p) x k)) .none),(4,.cells 48 [gV b])]⟩
def Y9(r:List Iv)(g:FuncId)(cap:List E)(Y:Nat->Iv)(p:Nat)(hl:r.length<=1000)(h0:0<r.length)(hr:∀ i,i<r.length->(r.getD i gL).gQ)(hy:∀ i,(Y i).gQ)(hg:∀ i,i<r.length->gJ g (iP (i:Int)::cap) (gR (Y i)))(ie:8<=p)(gS:p<=512):gJ 205 [ic r,.fn g cap,iP p] (gR (kY (λq=>r.getD q gL) Y p (r.length-1))):=by
 have w1:=hr 0 h0;have w2:=hy 0;exact aj call205 func205 (ae [iX 0 (r.length) aD,.c (hg 0 aD:gJ g ((iP 0)::cap) _),.c (rC (r.getD 0 gL) (Y 0) p aE aE aD aD),.s (Sp.iG (OG r g cap Y p) 0 (r.length-1) aD (λc hc abM=>by
    have w1:=hr (c+1) aD;have w2:=hy (c+1);have w3:=Jh (λq=>r.getD q gL) Y (aD:1<=p) aD c;have w4:=ml (r.getD (c+1) gL) (Y (c+1)) (aD:1<=p) aD;exact gX (aa [tT 19 (((c+1:Nat):Int)<r.length) aD,iX ((c+1:Nat):Int) (r.length) aD,.c (hg (c+1) aD:gJ g ((iP ((c+1:Nat):Int))::cap) _),.c (rC (r.getD (c+1) gL) (Y (c+1)) p aE aE aD aD),.c (xr (kY (λq=>r.getD q gL) Y p c) (ia (r.getD (c+1) gL) (Y (c+1)) p) p aE aE aD aD),gW (((c+1:Nat):Int)+1) aD]<|.e (ae [.b 7 (.iD rfl:Bx.le (.cells 46 (iA (jx (kY (λq=>r.getD q gL) Y p c) (ia (r.getD (c+1) gL) (Y (c+1)) p) p))) (.cells 46 (iA (kY (λq=>r.getD q gL) Y p (c+1)))))])) aG)
  (λhc=>by
    exact gX (ae [tF 19 ((((r.length-1)+1:Nat):Int)<r.length) aD]) aG) aK:iF 3 f205 (OG r g cap Y p 0) (.exit 0) ⟨35,true,[(7,.box 7 0),(6,.box 6 0)],[(7,.cells 46 (iA (kY (λq=>r.getD q gL) Y p (r.length-1)))),(6,.cells 46 ar)]⟩) (ae [.o 8 (an 1 ((0+1:Nat):Int) aS),.b 7 (.iD rfl:Bx.le (.cells 46 (iA (ia (r.getD 0 gL) (Y 0) p))) (.cells 46 (iA (kY (λq=>r.getD q gL) Y p 0))))])]) 
def adl(q j:Nat)(b:List (List Iv))(hq:q<b.length)(hj:j<(b.getD q []).length):gJ 206 [iP q,(.jN 1 λj_=>[gV b].getD j_ .any),(.jN 1 λj_=>[iP j].getD j_ .any)] (gR ((b.getD q []).getD j gL)):=
 aj call206 func206 (ae [iX (q:Int) (b.length) aD,iX (j:Int) ((b.getD q []).length) aD]) 
def Sq(a b:List (List Iv))(p:Nat)(n k c:Nat)(ga:iY a n k)(gb:iY b k c)(ie:8<=p)(gS:p<=512):gJ 126 [gV a,gV b,iP p] (.hH [gV (kK a b p),iP 0]):=by
 have ra:=ga.iH;have rb:=gb.iH;have n1:=ga.n1;have n8:=ga.n8;have kk1:=ga.k1;have kk8:=ga.k8;have cc8:=gb.k8;have la:=ga.kS (aD:0<n);have lb:=gb.kS (aD:0<k);have ew:mn a.length (λ_=>(b.getD 0 []).length) (λi j=>kY (λq=>(a.getD i []).getD q gL) (λq=>(b.getD q []).getD j gL) p ((a.getD i []).length-1))=kK a b p:=by
  rw[<-WG (n:=n) (k:=k-1) (c:=c) (a:=a) (b:=b) (p:=p) ra (λi hi=>by rw[ga.kS hi];omega) aD lb,ra,lb];unfold mn;apply dh;intro i hi;have e:=ga.kS (bD.1 hi);simp only[e]
 exact aj call126 func126 (aa [af [gV a] (wm _ _ _ aE),af [gV b] (wm _ _ _ aE),af [iP p] (BN _),ag 22 (jV (p:Int)) (mm.2 ⟨aD,aD⟩),iX 0 (a.length) aD,ah 31 (((a.getD 0 []).length:Int) != (b.length:Int)) (pK aD),.a (aD:0<=((a.length:Int):Int)/\((a.length:Int):Int)<=((a.length:Int):Int)),.a (aD:((24:Nat):Int)*(a.length:Int)<=281474976710656/\((a.length:Int):Int)<=9223372036854775807),.s (Sp.iG (SB a b p) 0 a.length aD (λx hx jf=>by
    have lax:=ga.kS (aD:x<n);exact gX (aa [tT 38 ((x:Int)<a.length) aD,iX 0 (b.length) aD,.s (Sp.iG (SC a b p x) 0 ((b.getD 0 []).length) aD (λk hk oJ=>by
    have hle:iS (iL a.length (λ_=>(b.getD 0 []).length) (λi j=>kY (λq=>(a.getD i []).getD q gL) (λq=>(b.getD q []).getD j gL) p ((a.getD i []).length-1)) x k) x=k:=DJ aD ;have h1:=nu (kY (λq=>(a.getD x []).getD q gL) (λq=>(b.getD q []).getD k gL) p ((a.getD x []).length-1));exact gX (aa [tT 45 ((k:Int)<((b.getD 0 []).length:Int)) aD,iX (x:Int) (a.length) aD,.a (aD:x<a.length),iX (x:Int) (a.length) aD,.c (Y9 _ 206 _ (λq=>(b.getD q []).getD k gL) p aD aD (λq hq=>ga.mF aD (by rw[lax]at hq;exact hq)) (λq=>Jo gb q k) (λq hq=>adl q k b aD (by rw[gb.kS aD];omega)) aD aD:gJ 205 [ic (a.getD x []),.fn 206 [(.jN 1 λj_=>[gV b].getD j_ .any),(.jN 1 λj_=>[iP k].getD j_ .any)],iP p] _),.o 60 (.e (lD _):ai (.sl true 1 7 λi_ j_=>(iA (Is a x b k p)).getD (i_*7+j_) (.v (.bool false))) (ic [Is a x b k p])),.a (aD:x<a.length),.a (aD:((iS (iL a.length (λ_=>(b.getD 0 []).length) (λi j=>kY (λq=>(a.getD i []).getD q gL) (λq=>(b.getD q []).getD j gL) p ((a.getD i []).length-1)) x k)) x+[kY (λq=>(a.getD x []).getD q gL) (λq=>(b.getD q []).getD k gL) p ((a.getD x []).length-1)].length)*88<=140737488355328),
     iX (x:Int) (a.length) aD,.a (rfl:x=x),.a (rfl:x=x),.a (aD:x<a.length),gW ((k:Int)+1) aD]<|.e (ae [.b 34 (Ck rfl aD aD rfl:Bx.le (.iH true 26 46 a.length 7 (λq=>if q=x then(iS (iL a.length (λ_=>(b.getD 0 []).length) (pD a b p) x k)) q+[Is a x b k p].length else(iS (iL a.length (λ_=>(b.getD 0 []).length) (pD a b p) x k)) q) (λq i j=>if q=x then(if i<(iS (iL a.length (λ_=>(b.getD 0 []).length) (pD a b p) x k)) q then(jH (iL a.length (λ_=>(b.getD 0 []).length) (pD a b p) x k)) q i j else(E.ke (ic [Is a x b k p])) (i-(iS (iL a.length (λ_=>(b.getD 0 []).length) (pD a b p) x k)) q) j)else(jH (iL a.length (λ_=>(b.getD 0 []).length) (pD a b p) x k)) q i j) .none) (.iH true 26 46 a.length 7 (iS (iL a.length (λ_=>(b.getD 0 []).length) (pD a b p) x (k+1))) (jH (iL a.length (λ_=>(b.getD 0 []).length) (pD a b p) x (k+1))) .none))])) aG)
  (λhk=>by
    exact gX (ae [tF 45 (((b.getD 0 []).length:Int)<((b.getD 0 []).length:Int)) aD]) aG) aK:iF 12 f126 (SC a b p x 0) (.exit 3) ⟨66,true,[(37,.e (iP x)),(36,.e (iP a.length)),(8,.own 34),(4,.box 4 0),(0,.e (gV a)),(2,.e (iP p))],[(34,.iH true 26 46 a.length 7 (iS (iL a.length (λ_=>(b.getD 0 []).length) (pD a b p) x ((b.getD 0 []).length))) (jH (iL a.length (λ_=>(b.getD 0 []).length) (pD a b p) x ((b.getD 0 []).length))) .none),(4,.cells 48 [gV b])]⟩) .nil,
     gW ((x:Int)+1) aD]<|.e (ae [.b 34 (Er rfl:Bx.le (.iH true 26 46 a.length 7 (iS (iL a.length (λ_=>(b.getD 0 []).length) (pD a b p) x ((b.getD 0 []).length))) (jH (iL a.length (λ_=>(b.getD 0 []).length) (pD a b p) x ((b.getD 0 []).length))) .none) (.iH true 26 46 a.length 7 (iS (iL a.length (λ_=>(b.getD 0 []).length) (pD a b p) (x+1) 0)) (jH (iL a.length (λ_=>(b.getD 0 []).length) (pD a b p) (x+1) 0)) .none))])) aG)
  (λhx=>by
    exact gX (ae [tF 38 ((a.length:Int)<a.length) aD]) aG) aK:iF 9 f126 (SB a b p 0) (.exit 1) ⟨66,true,[(8,.own 34)],[(34,.iH true 26 46 a.length 7 (iS (iL a.length (λ_=>(b.getD 0 []).length) (pD a b p) a.length 0)) (jH (iL a.length (λ_=>(b.getD 0 []).length) (pD a b p) a.length 0)) .none)]⟩) (ae [.b 34 (Ep rfl:Bx.le (.iH true 26 46 a.length 7 (λ_=>0) (λ_ _ _=>.any) .none) (.iH true 26 46 a.length 7 (iS (iL a.length (λ_=>(b.getD 0 []).length) (pD a b p) 0 0)) (jH (iL a.length (λ_=>(b.getD 0 []).length) (pD a b p) 0 0)) .none))])]<|rR (.hH [gV (kK a b p),iP 0]) (by
      rw[<-ew,<-E3];exact .hH (.cons (BL (E4 _ _ _ _ _).symm) (.cons (.refl _) .nil)):E.le (.hH [(.sl true a.length 1 λk_ _=>.sl true ((iS (iL a.length (λ_=>(b.getD 0 []).length) (λi j=>kY (λq=>(a.getD i []).getD q gL) (λq=>(b.getD q []).getD j gL) p ((a.getD i []).length-1)) a.length 0)) k_) 7 ((jH (iL a.length (λ_=>(b.getD 0 []).length) (λi j=>kY (λq=>(a.getD i []).getD q gL) (λq=>(b.getD q []).getD j gL) p ((a.getD i []).length-1)) a.length 0)) k_)),iP 0]) (.hH [gV (kK a b p),iP 0]))) 
def ahq(i j:Nat)(x y:Iv)(p:Nat)(hx:x.gQ)(hy:y.gQ)(ie:8<=p)(gS:p<=512):gJ 208 [iP i,iP j,gR y,(.jN 7 λj_=>[bP x.lo.neg,gO (gK x.lo.m),iP x.lo.e,bP x.hi.neg,gO (gK x.hi.m),iP x.hi.e,bP x.all].getD j_ .any),(.jN 1 λj_=>[iP p].getD j_ .any)] (gR (ia x y p)):=
 aj call208 func208 (ae [.c (rC x y p aE aE aD aD)]) 
def Sr(a:List (List Iv))(x:Iv)(n k p:Nat)(ga:iY a n k)(hx:x.gQ)(ie:8<=p)(gS:p<=512):gJ 127 [gV a,gR x,iP p] (gV (lM a x p)):=by
 have ra:=ga.iH;have n8:=ga.n8;exact aj call127 func127 (aa [af [gV a] (wm _ _ _ aE),.c (vq x aE),af [iP p] (BN _),ag 17 (jV (p:Int)) (mm.2 ⟨aD,aD⟩),.c (Sn a 208 [(.jN 7 λj_=>[bP x.lo.neg,gO (gK x.lo.m),iP x.lo.e,bP x.hi.neg,gO (gK x.hi.m),iP x.hi.e,bP x.all].getD j_ .any),(.jN 1 λj_=>[iP p].getD j_ .any)] (λi j=>ia x ((a.getD i []).getD j gL) p) aD (λi=>bM (ga.yE i) aF) (λi j hi hj=>ahq _ _ _ _ _ hx (ga.mF aD (by rw[ga.kS aD]at hj;exact hj)) ie gS))]<|rQ (gV (mn a.length (λq=>(a.getD q []).length) (λi j=>ia x ((a.getD i []).getD j gL) p))) (gV (lM a x p)) (by rw[WH])) 
abbrev Ar(a:List (List Iv))(b:List (List Iv))(p):=λi_=>(List.range (a.getD i_ []).length).map (λj_=>(jx ((a.getD i_ []).getD j_ gL) ((b.getD i_ []).getD j_ gL) p))
abbrev As(a:List (List Iv))(s:Iv)(p):=λi_=>(List.range (a.getD i_ []).length).map (λj_=>(ia s ((a.getD i_ []).getD j_ gL) p))
abbrev yN(b:List (List Iv)):=λi_=>(List.range b.length).map (λj_=>((b.getD j_ []).getD i_ gL))
abbrev BW(a:List (List Iv))(x)(b:List (List Iv))(p):=λj_=>(jx ((a.getD x []).getD j_ gL) ((b.getD x []).getD j_ gL) p)
abbrev wC(a:List (List Iv))(x):=λq=>(a.getD x []).getD q gL
abbrev BX(s:Iv)(a:List (List Iv))(x)(p):=λj_=>(ia s ((a.getD x []).getD j_ gL) p)
abbrev At(a:List (List Iv))(i_:Nat):=λq=>(a.getD i_ []).getD q gL
abbrev BY(b:List (List Iv))(x):=λj_=>((b.getD j_ []).getD x gL)
abbrev G2:=gZ (Dy.mk ix.neg 1 ix.e)
abbrev G3(a:List (List Iv))(x)(y)(b:List (List Iv))(p):=jx ((a.getD x []).getD y gL) ((b.getD x []).getD y gL) p
def kT(b:List (List Iv)):List (List Iv):=((List.range (b.getD 0 []).length).map (yN b))
def T4(a b:List (List Iv))(p:Nat)(x:Nat):PS:=⟨97,true,[(11,.own 11),(12,.e (iP x)),(0,.e (gV a)),(1,.e (gV b)),(2,.e (iP p)),(3,.e (bP false))],[(11,.row true 26 x 1 (lj ((List.range x).map (Ar a b p))))]⟩
def T5(a b:List (List Iv))(p:Nat)(x:Nat)(y:Nat):PS:=⟨97,true,[(13,.own 13),(14,.e (iP y)),(11,.own 11),(12,.e (iP x)),(0,.e (gV a)),(1,.e (gV b)),(2,.e (iP p)),(3,.e (bP false))],[(13,.row true 46 y 7 (ja ((List.range y).map (BW a x b p)))),(11,.row true 26 x 1 (lj ((List.range x).map (Ar a b p))))]⟩
def T6(xs ys:List Iv)(p:Nat)(c:Nat):PS:=⟨37,true,[(8,.e (iP ((c+1:Nat):Int))),(7,.box 7 0),(6,.box 6 0),(0,.e (ic xs)),(1,.e (ic ys)),(2,.e (iP p))],[(7,.cells 46 (iA (kY (λq=>xs.getD q gL) (λq=>ys.getD q gL) p c))),(6,.cells 46 ar)]⟩
def Ue(b:List (List Iv))(x:Nat):PS:=⟨39,true,[(3,.own 3),(4,.e (iP x)),(0,.e (gV b))],[(3,.row true 26 x 1 (lj ((List.range x).map (yN b))))]⟩
def Uf(b:List (List Iv))(x:Nat)(y:Nat):PS:=⟨39,true,[(5,.own 5),(6,.e (iP y)),(3,.own 3),(4,.e (iP x)),(0,.e (gV b))],[(5,.row true 46 y 7 (ja ((List.range y).map (BY b x)))),(3,.row true 26 x 1 (lj ((List.range x).map (yN b))))]⟩
def Ua(a b:List (List Iv))(p:Nat)(x:Nat):PS:=⟨60,true,[(10,.own 10),(11,.e (iP x)),(9,.e (gV (kT b))),(0,.e (gV a)),(2,.e (iP p))],[(10,.row true 26 x 1 (lj ((List.range x).map (λi_=>(List.range (kT b).length).map (λj_=>(kY (At a i_) (λq=>((kT b).getD j_ []).getD q gL) p ((a.getD i_ []).length-1)))))))]⟩
def Ub(a b:List (List Iv))(p:Nat)(x:Nat)(y:Nat):PS:=⟨60,true,[(12,.own 12),(13,.e (iP y)),(10,.own 10),(11,.e (iP x)),(9,.e (gV (kT b))),(0,.e (gV a)),(2,.e (iP p))],[(12,.row true 46 y 7 (ja ((List.range y).map (λj_=>(kY (wC a x) (λq=>((kT b).getD j_ []).getD q gL) p ((a.getD x []).length-1)))))),(10,.row true 26 x 1 (lj ((List.range x).map (λi_=>(List.range (kT b).length).map (λj_=>(kY (At a i_) (λq=>((kT b).getD j_ []).getD q gL) p ((a.getD i_ []).length-1)))))))]⟩
def Uc(a:List (List Iv))(s:Iv)(p:Nat)(x:Nat):PS:=⟨57,true,[(7,.own 7),(8,.e (iP x)),(4,.box 4 0),(0,.e (gV a)),(2,.e (iP p))],[(7,.row true 26 x 1 (lj ((List.range x).map (As a s p)))),(4,.cells 46 (iA s))]⟩
def Ud(a:List (List Iv))(s:Iv)(p:Nat)(x:Nat)(y:Nat):PS:=⟨57,true,[(9,.own 9),(10,.e (iP y)),(7,.own 7),(8,.e (iP x)),(4,.box 4 0),(0,.e (gV a)),(2,.e (iP p))],[(9,.row true 46 y 7 (ja ((List.range y).map (BX s a x p)))),(7,.row true 26 x 1 (lj ((List.range x).map (As a s p)))),(4,.cells 46 (iA s))]⟩
def T8(n:Nat)(x:Nat):PS:=⟨40,true,[(3,.own 3),(4,.e (iP x)),(0,.e (iP n))],[(3,.row true 26 x 1 (lj ((List.range x).map (λi_=>(List.range n).map (λj_=>(gZ (if i_=j_ then(Dy.mk false 1 0)else ix)))))))]⟩
def T9(n:Nat)(x:Nat)(y:Nat):PS:=⟨40,true,[(5,.own 5),(6,.e (iP y)),(3,.own 3),(4,.e (iP x)),(0,.e (iP n))],[(5,.row true 46 y 7 (ja ((List.range y).map (λj_=>(gZ (if x=j_ then(Dy.mk false 1 0)else ix)))))),(3,.row true 26 x 1 (lj ((List.range x).map (λi_=>(List.range n).map (λj_=>(gZ (if i_=j_ then(Dy.mk false 1 0)else ix)))))))]⟩
def AF(m:List (List Iv))(n k:Nat)(h:iY m n k):gJ 221 [gV m] (bP true):=by
 have:=Uk (qo m) h.wW (by have:=h.n8;simp[qo,h.iH];omega) (λi=>by rw[Cc];have:=h.yE i;simp only[sJ,cr];omega);rwa[La,Ad.2 h.Mg]at this
def T7(a b:List (List Iv))(n k n2 k2 p:Nat)(ga:iY a n k)(gb:iY b n2 k2)(ie:8<=p)(gS:p<=512):gJ 222 [gV a,gV b,iP p] (iP 0):=
 aj call222 func222 (ae [af [gV a] (AF _ _ _ aE),af [gV b] (AF _ _ _ aE),af [iP p] (rI _),ag 16 (jV (p:Int)) (mm.2 ⟨aD,aD⟩)]) 
def AD(a b:List (List Iv))(n k p:Nat)(ga:iY a n k)(gb:iY b n k)(ie:8<=p)(gS:p<=512):gJ 142 [gV a,gV b,iP p,bP false] (.hH [gV (tN a b p),iP 0]):=by
 have ra:=ga.iH;have rb:=gb.iH;have n1:=ga.n1;have n8:=ga.n8;have k1:=ga.k1;have k8:=ga.k8;have l0:=ga.kS (aD:0<n);have l1:=gb.kS (aD:0<n);exact aj call142 func142 (aa [af [gV a,gV b,iP p] (T7 _ _ _ _ _ _ _ aE aE aD aD),ah 20 ((0:Int) != 0) aF,ah 26 ((a.length:Int) != (b.length:Int)) (pK aD),iX 0 (a.length) aD,iX 0 (b.length) aD,ah 36 (((a.getD 0 []).length:Int) != ((b.getD 0 []).length:Int)) (pK aD),.y 11 11 true 26 1 (lj ((List.range 0).map (Ar a b p))),.s (Sp.iG (T4 a b p) 0 a.length aD (λx hx jf=>by
    have lx:=ga.kS (aD:x<n);have ly:=gb.kS (aD:x<n);exact gX (aa [tT 41 ((x:Int)<a.length) aD,.y 13 13 true 46 7 (ja ((List.range 0).map (BW a x b p))),.s (Sp.iG (T5 a b p x) 0 ((a.getD x []).length) aD (λy hy qf=>by
    have w1:=ga.mF (aD:x<n) (aD:y<k);have w2:=gb.mF (aD:x<n) (aD:y<k);have Bt:=nu (jx ((a.getD x []).getD y gL) ((b.getD x []).getD y gL) p);exact gX (aa [iX (x:Int) (a.length) aD,tT 50 ((y:Int)<((a.getD x []).length:Int)) aD,iX (x:Int) (a.length) aD,iX (y:Int) ((a.getD x []).length) aD,
     iX (x:Int) (b.length) aD,iX (y:Int) ((b.getD x []).length) aD,.c (xG ((a.getD x []).getD y gL) ((b.getD x []).getD y gL) p aE aE aD aD),.o 90 (.e (lD _):ai (.sl true 1 7 λi_ j_=>(iA (G3 a x y b p)).getD (i_*7+j_) (.v (.bool false))) (ic [G3 a x y b p])),.a (aD:(y+[jx ((a.getD x []).getD y gL) ((b.getD x []).getD y gL) p].length)*88<=140737488355328),gW ((y:Int)+1) aD]<|.e (ae [.b 13 (we rfl rfl rfl:Bx.le (.row true 46 (y+[G3 a x y b p].length) 7 (λi_ j_=>if i_<y then(ja ((List.range y).map (BW a x b p))) i_ j_ else(E.ke (ic [G3 a x y b p])) (i_-y) j_)) (.row true 46 (y+1) 7 (ja ((List.range (y+1)).map (BW a x b p)))))])) aG)
  (λhy=>by
    exact gX (aa [iX (x:Int) (a.length) aD,tF 50 (((a.getD x []).length:Int)<((a.getD x []).length:Int)) aD,.z 13]<|.e (ae [.o 13 (.e (sC aJ):ai (.sl true ((a.getD x []).length) 7 (ja ((List.range ((a.getD x []).length)).map (λj_=>(jx ((a.getD x []).getD j_ gL) ((b.getD x []).getD j_ gL) p))))) (ic ((List.range (a.getD x []).length).map (λj_=>(jx ((a.getD x []).getD j_ gL) ((b.getD x []).getD j_ gL) p)))))])) aG) aK:iF 12 f142 (T5 a b p x 0) (.exit 2) ⟨97,true,[(13,.e (ic ((List.range (a.getD x []).length).map (BW a x b p)))),(11,.own 11),(12,.e (iP x)),(0,.e (gV a)),(1,.e (gV b)),(2,.e (iP p)),(3,.e (bP false))],[(11,.row true 26 x 1 (lj ((List.range x).map (Ar a b p))))]⟩) .nil,.a (aD:(x+1)*24<=140737488355328),gW ((x:Int)+1) aD]<|.e (ae [.b 11 (Af rfl rfl rfl (λj hj=>by cases dT.1 hj;rfl):Bx.le (.row true 26 (x+1) 1 (λi_ j_=>if i_<x then(lj ((List.range x).map (Ar a b p))) i_ j_ else(E.ke (.sl true 1 1 λi_ j_=>[ic ((List.range (a.getD x []).length).map (BW a x b p))].getD (i_*1+j_) (.v (.bool false)))) (i_-x) j_)) (.row true 26 (x+1) 1 (lj ((List.range (x+1)).map (Ar a b p)))))])) aG)
  (λhx=>by
    exact gX (aa [tF 41 ((a.length:Int)<a.length) aD,.z 11]<|.e (ae [.o 11 (.e (Ae aJ):ai (.sl true a.length 1 (lj ((List.range a.length).map (λi_=>(List.range (a.getD i_ []).length).map (λj_=>(jx ((a.getD i_ []).getD j_ gL) ((b.getD i_ []).getD j_ gL) p)))))) (gV ((List.range a.length).map (λi_=>(List.range (a.getD i_ []).length).map (λj_=>(jx ((a.getD i_ []).getD j_ gL) ((b.getD i_ []).getD j_ gL) p))))))])) aG) aK:iF 8 f142 (T4 a b p 0) (.exit 0) ⟨97,true,[(11,.e (gV ((List.range a.length).map (Ar a b p))))],[]⟩) .nil]<|rQ (.hH [gV ((List.range a.length).map (λi_=>(List.range (a.getD i_ []).length).map (λj_=>(jx ((a.getD i_ []).getD j_ gL) ((b.getD i_ []).getD j_ gL) p)))),iP 0]) (.hH [gV (tN a b p),iP 0]) (by rw[<-MH ga gb];rfl)) 
def afB(xs ys:List Iv)(p:Nat)(h0:0<xs.length)(hl:xs.length<=1000)(hlen:ys.length=xs.length)(hx:∀ i,i<xs.length->(xs.getD i gL).gQ)(hy:∀ i,i<xs.length->(ys.getD i gL).gQ)(ie:8<=p)(gS:p<=512):gJ 224 [ic xs,ic ys,iP p] (gR (kY (λq=>xs.getD q gL) (λq=>ys.getD q gL) p (xs.length-1))):=by
 have w1:=hx 0 h0;have w2:=hy 0 h0;exact aj call224 func224 (ae [iX 0 (xs.length) aD,iX 0 (ys.length) aD,.c (qH (xs.getD 0 gL) (ys.getD 0 gL) p aE aE aD aD),.s (Sp.iG (T6 xs ys p) 0 (xs.length-1) aD (λc hc abM=>by
    have w1:=hx (c+1) aD;have w2:=hy (c+1) aD;have w3:=Jh (λq=>xs.getD q gL) (λq=>ys.getD q gL) (aD:1<=p) aD c;exact gX (aa [tT 20 (((c+1:Nat):Int)<xs.length) aD,iX ((c+1:Nat):Int) (xs.length) aD,iX ((c+1:Nat):Int) (ys.length) aD,.c (qH (xs.getD (c+1) gL) (ys.getD (c+1) gL) p aE aE aD aD),.c (xG (kY (λq=>xs.getD q gL) (λq=>ys.getD q gL) p c) (ia (xs.getD (c+1) gL) (ys.getD (c+1) gL) p) p aE (ml _ _ aD aD) aD aD),
     gW (((c+1:Nat):Int)+1) aD]<|.e (ae [.b 7 (.iD rfl:Bx.le (.cells 46 (iA (jx (kY (λq=>xs.getD q gL) (λq=>ys.getD q gL) p c) (ia (xs.getD (c+1) gL) (ys.getD (c+1) gL) p) p))) (.cells 46 (iA (kY (λq=>xs.getD q gL) (λq=>ys.getD q gL) p (c+1)))))])) aG)
  (λhc=>by
    exact gX (ae [tF 20 ((((xs.length-1)+1:Nat):Int)<xs.length) aD]) aG) aK:iF 3 f224 (T6 xs ys p 0) (.exit 0) ⟨37,true,[(7,.box 7 0),(6,.box 6 0)],[(7,.cells 46 (iA (kY (λq=>xs.getD q gL) (λq=>ys.getD q gL) p (xs.length-1)))),(6,.cells 46 ar)]⟩) (ae [.o 8 (an 1 ((0+1:Nat):Int) aS),.b 7 (.iD rfl:Bx.le (.cells 46 (iA (ia (xs.getD 0 gL) (ys.getD 0 gL) p))) (.cells 46 (iA (kY (λq=>xs.getD q gL) (λq=>ys.getD q gL) p 0))))])]) 
def afC(b:List (List Iv))(k c:Nat)(gb:iY b k c):gJ 223 [gV b] (gV (kT b)):=by
 have rb:=gb.iH;have n1:=gb.n1;have n8:=gb.n8;have k8:=gb.k8;have l0:=gb.kS (aD:0<k);exact aj call223 func223 (ae [af [gV b] (AF _ _ _ aE),.y 3 3 true 26 1 (lj ((List.range 0).map (yN b))),.s (Sp.iG (Ue b) 0 ((b.getD 0 []).length) aD (λx hx jf=>by
    exact gX (aa [iX 0 (b.length) aD,tT 15 ((x:Int)<((b.getD 0 []).length:Int)) aD,.y 5 5 true 46 7 (ja ((List.range 0).map (BY b x))),.s (Sp.iG (Uf b x) 0 b.length aD (λy hy qf=>by
    have w1:=gb.mF (aD:y<k) (aD:x<c);have lyy:=gb.kS (aD:y<k);have Bt:=nu ((b.getD y []).getD x gL);exact gX (aa [tT 21 ((y:Int)<b.length) aD,iX (y:Int) (b.length) aD,iX (x:Int) ((b.getD y []).length) aD,.o 32 (.e (lD _):ai (.sl true 1 7 λi_ j_=>(iA ((b.getD y []).getD x gL)).getD (i_*7+j_) (.v (.bool false))) (ic [(b.getD y []).getD x gL])),.a (aD:(y+[(b.getD y []).getD x gL].length)*88<=140737488355328),gW ((y:Int)+1) aD]<|.e (ae [.b 5 (we rfl rfl rfl:Bx.le (.row true 46 (y+[(b.getD y []).getD x gL].length) 7 (λi_ j_=>if i_<y then(ja ((List.range y).map (BY b x))) i_ j_ else(E.ke (ic [(b.getD y []).getD x gL])) (i_-y) j_)) (.row true 46 (y+1) 7 (ja ((List.range (y+1)).map (BY b x)))))])) aG)
  (λhy=>by
    exact gX (aa [tF 21 ((b.length:Int)<b.length) aD,.z 5]<|.e (ae [.o 5 (.e (sC aJ):ai (.sl true b.length 7 (ja ((List.range b.length).map (λj_=>((b.getD j_ []).getD x gL))))) (ic ((List.range b.length).map (λj_=>((b.getD j_ []).getD x gL)))))])) aG) aK:iF 9 f223 (Uf b x 0) (.exit 2) ⟨39,true,[(5,.e (ic ((List.range b.length).map (BY b x)))),(3,.own 3),(4,.e (iP x)),(0,.e (gV b))],[(3,.row true 26 x 1 (lj ((List.range x).map (yN b))))]⟩) .nil,.a (aD:(x+1)*24<=140737488355328),gW ((x:Int)+1) aD]<|.e (ae [.b 3 (Af rfl rfl rfl (λj hj=>by cases dT.1 hj;rfl):Bx.le (.row true 26 (x+1) 1 (λi_ j_=>if i_<x then(lj ((List.range x).map (yN b))) i_ j_ else(E.ke (.sl true 1 1 λi_ j_=>[ic ((List.range b.length).map (BY b x))].getD (i_*1+j_) (.v (.bool false)))) (i_-x) j_)) (.row true 26 (x+1) 1 (lj ((List.range (x+1)).map (yN b)))))])) aG)
  (λhx=>by
    exact gX (aa [iX 0 (b.length) aD,tF 15 (((b.getD 0 []).length:Int)<((b.getD 0 []).length:Int)) aD,.z 3]<|.e (ae [.o 3 (.e (Ae aJ):ai (.sl true ((b.getD 0 []).length) 1 (lj ((List.range ((b.getD 0 []).length)).map (λi_=>(List.range b.length).map (λj_=>((b.getD j_ []).getD i_ gL)))))) (gV ((List.range (b.getD 0 []).length).map (λi_=>(List.range b.length).map (λj_=>((b.getD j_ []).getD i_ gL))))))])) aG) aK:iF 5 f223 (Ue b 0) (.exit 0) ⟨39,true,[(3,.e (gV ((List.range (b.getD 0 []).length).map (yN b))))],[]⟩) .nil]) 
def Wh{b:List (List Iv)}{k c:Nat}(gb:iY b k c){y:Nat}(hy:y<c):((kT b).getD y []).length=k/\∀ q,((kT b).getD y []).getD q gL=(b.getD q []).getD y gL:=by
 have l0:=gb.kS (show 0<k by have:=gb.n1;omega);have rb:=gb.iH;unfold kT;rw[Cj aD];refine⟨by simp[rb],λq=>?_⟩;by_cases hq:q<b.length
 .rw [tz hq]
 .rw [bn (l:=List.map _ _),bR aR,bn (l:=b),bR aD];simp
def Wg{b:List (List Iv)}{k c:Nat}(gb:iY b k c):(kT b).length=c:=by
 have l0:=gb.kS (show 0<k by have:=gb.n1;omega);unfold kT;rw[cr,dL];exact l0
def aiD{a b:List (List Iv)}{n k c p:Nat}(ga:iY a n k)(gb:iY b k c):((List.range a.length).map (λi_=>(List.range (kT b).length).map (λj_=>(kY (λq=>(a.getD i_ []).getD q gL) (λq=>((kT b).getD j_ []).getD q gL) p ((a.getD i_ []).length-1)))))=kK a b p:=by
 obtain⟨k',rfl⟩:∃ k',k=k'+1:=⟨k-1,by have:=ga.k1;omega⟩
 have l0:=gb.kS (aD:0<k'+1);rw[<-WG (n:=n) (k:=k') (c:=c) ga.iH (λi hi=>ga.kS hi) gb.iH l0,Wg gb,ga.iH];unfold mn;apply dh;intro i hi;have hi:=bD.1 hi;apply dh;intro j hj;have hj:=bD.1 hj;rw[ga.kS hi,dB];congr 1;funext q;exact(Wh gb hj).2 q
def yS(a b:List (List Iv))(n k c p:Nat)(ga:iY a n k)(gb:iY b k c)(ie:8<=p)(gS:p<=512):gJ 137 [gV a,gV b,iP p] (.hH [gV (kK a b p),iP 0]):=by
 have ra:=ga.iH;have rb:=gb.iH;have n1:=ga.n1;have n8:=ga.n8;have k1:=ga.k1;have k8:=ga.k8;have c8:=gb.k8;have l0:=ga.kS (aD:0<n);have tl:=Wg gb;exact aj call137 func137 (aa [af [gV a,gV b,iP p] (T7 _ _ _ _ _ _ _ aE aE aD aD),ah 19 ((0:Int) != 0) aF,iX 0 (a.length) aD,ah 27 (((a.getD 0 []).length:Int) != (b.length:Int)) (pK aD),af [gV b] (afC _ _ _ gb),.y 10 10 true 26 1 (lj ((List.range 0).map (λi_=>(List.range (kT b).length).map (λj_=>(kY (At a i_) (λq=>((kT b).getD j_ []).getD q gL) p ((a.getD i_ []).length-1)))))),.s (Sp.iG (Ua a b p) 0 a.length aD (λx hx jf=>by
    have lx:=ga.kS (aD:x<n);exact gX (aa [tT 33 ((x:Int)<a.length) aD,.y 12 12 true 46 7 (ja ((List.range 0).map (λj_=>(kY (wC a x) (λq=>((kT b).getD j_ []).getD q gL) p ((a.getD x []).length-1))))),.s (Sp.iG (Ub a b p x) 0 ((kT b).length) aD (λy hy qf=>by
    obtain⟨t1,t2⟩:=Wh gb (aD:y<c);have C7:((kT b).getD y []).length=(a.getD x []).length:= aD ;have hdx:∀ i,i<(a.getD x []).length->((a.getD x []).getD i gL).gQ:=λi hi=>ga.mF (aD:x<n) aD 
    have hdy:∀ i,i<(a.getD x []).length->(((kT b).getD y []).getD i gL).gQ:=λi hi=>by rw[t2 i];exact gb.mF (aD:i<k) aD 
    have Bt:=nu (kY (λq=>(a.getD x []).getD q gL) (λq=>((kT b).getD y []).getD q gL) p ((a.getD x []).length-1));exact gX (aa [tT 39 ((y:Int)<((kT b).length:Int)) aD,iX (x:Int) (a.length) aD,iX (y:Int) ((kT b).length) aD,.c (afB (a.getD x []) ((kT b).getD y []) p aD aD C7 hdx hdy aD aD),.o 53 (.e (lD _):ai (.sl true 1 7 λi_ j_=>(iA (kY (wC a x) (λq=>((kT b).getD y []).getD q gL) p ((a.getD x []).length-1))).getD (i_*7+j_) (.v (.bool false))) (ic [kY (wC a x) (λq=>((kT b).getD y []).getD q gL) p ((a.getD x []).length-1)])),.a (aD:(y+[kY (λq=>(a.getD x []).getD q gL) (λq=>((kT b).getD y []).getD q gL) p ((a.getD x []).length-1)].length)*88<=140737488355328),gW ((y:Int)+1) aD]<|.e (ae [.b 12 (we rfl rfl rfl:Bx.le (.row true 46 (y+[kY (wC a x) (λq=>((kT b).getD y []).getD q gL) p ((a.getD x []).length-1)].length) 7 (λi_ j_=>if i_<y then(ja ((List.range y).map (λj_=>(kY (wC a x) (λq=>((kT b).getD j_ []).getD q gL) p ((a.getD x []).length-1))))) i_ j_ else(E.ke (ic [kY (wC a x) (λq=>((kT b).getD y []).getD q gL) p ((a.getD x []).length-1)])) (i_-y) j_)) (.row true 46 (y+1) 7 (ja ((List.range (y+1)).map (λj_=>(kY (wC a x) (λq=>((kT b).getD j_ []).getD q gL) p ((a.getD x []).length-1)))))))])) aG)
  (λhy=>by
    exact gX (aa [tF 39 (((kT b).length:Int)<((kT b).length:Int)) aD,.z 12]<|.e (ae [.o 12 (.e (sC aJ):ai (.sl true ((kT b).length) 7 (ja ((List.range ((kT b).length)).map (λj_=>(kY (λq=>(a.getD x []).getD q gL) (λq=>((kT b).getD j_ []).getD q gL) p ((a.getD x []).length-1)))))) (ic ((List.range (kT b).length).map (λj_=>(kY (λq=>(a.getD x []).getD q gL) (λq=>((kT b).getD j_ []).getD q gL) p ((a.getD x []).length-1))))))])) aG) aK:iF 13 f137 (Ub a b p x 0) (.exit 2) ⟨60,true,[(12,.e (ic ((List.range (kT b).length).map (λj_=>(kY (wC a x) (λq=>((kT b).getD j_ []).getD q gL) p ((a.getD x []).length-1)))))),(10,.own 10),(11,.e (iP x)),(9,.e (gV (kT b))),(0,.e (gV a)),(2,.e (iP p))],[(10,.row true 26 x 1 (lj ((List.range x).map (λi_=>(List.range (kT b).length).map (λj_=>(kY (At a i_) (λq=>((kT b).getD j_ []).getD q gL) p ((a.getD i_ []).length-1)))))))]⟩) .nil,.a (aD:(x+1)*24<=140737488355328),gW ((x:Int)+1) aD]<|.e (ae [.b 10 (Af rfl rfl rfl (λj hj=>by cases dT.1 hj;rfl):Bx.le (.row true 26 (x+1) 1 (λi_ j_=>if i_<x then(lj ((List.range x).map (λi_=>(List.range (kT b).length).map (λj_=>(kY (At a i_) (λq=>((kT b).getD j_ []).getD q gL) p ((a.getD i_ []).length-1)))))) i_ j_ else(E.ke (.sl true 1 1 λi_ j_=>[ic ((List.range (kT b).length).map (λj_=>(kY (wC a x) (λq=>((kT b).getD j_ []).getD q gL) p ((a.getD x []).length-1))))].getD (i_*1+j_) (.v (.bool false)))) (i_-x) j_)) (.row true 26 (x+1) 1 (lj ((List.range (x+1)).map (λi_=>(List.range (kT b).length).map (λj_=>(kY (At a i_) (λq=>((kT b).getD j_ []).getD q gL) p ((a.getD i_ []).length-1))))))))])) aG)
  (λhx=>by
    exact gX (aa [tF 33 ((a.length:Int)<a.length) aD,.z 10]<|.e (ae [.o 10 (.e (Ae aJ):ai (.sl true a.length 1 (lj ((List.range a.length).map (λi_=>(List.range (kT b).length).map (λj_=>(kY (λq=>(a.getD i_ []).getD q gL) (λq=>((kT b).getD j_ []).getD q gL) p ((a.getD i_ []).length-1))))))) (gV ((List.range a.length).map (λi_=>(List.range (kT b).length).map (λj_=>(kY (λq=>(a.getD i_ []).getD q gL) (λq=>((kT b).getD j_ []).getD q gL) p ((a.getD i_ []).length-1)))))))])) aG) aK:iF 9 f137 (Ua a b p 0) (.exit 0) ⟨60,true,[(10,.e (gV ((List.range a.length).map (λi_=>(List.range (kT b).length).map (λj_=>(kY (At a i_) (λq=>((kT b).getD j_ []).getD q gL) p ((a.getD i_ []).length-1)))))))],[]⟩) .nil]<|rQ (.hH [gV ((List.range a.length).map (λi_=>(List.range (kT b).length).map (λj_=>(kY (λq=>(a.getD i_ []).getD q gL) (λq=>((kT b).getD j_ []).getD q gL) p ((a.getD i_ []).length-1))))),iP 0]) (.hH [gV (kK a b p),iP 0]) (by rw[<-aiD ga gb];try rfl)) 
def yT(a:List (List Iv))(s:Iv)(n k p:Nat)(ga:iY a n k)(hs:s.gQ)(ie:8<=p)(gS:p<=512):gJ 138 [gV a,gR s,iP p] (gV (lM a s p)):=by
 have ra:=ga.iH;have n1:=ga.n1;have n8:=ga.n8;have k8:=ga.k8;exact aj call138 func138 (aa [af [gV a] (AF _ _ _ aE),.c (LY s aE),af [iP p] (rI _),ag 21 (jV (p:Int)) (mm.2 ⟨aD,aD⟩),.y 7 7 true 26 1 (lj ((List.range 0).map (As a s p))),.s (Sp.iG (Uc a s p) 0 a.length aD (λx hx jf=>by
    have lx:=ga.kS (aD:x<n);exact gX (aa [tT 27 ((x:Int)<a.length) aD,.y 9 9 true 46 7 (ja ((List.range 0).map (BX s a x p))),.s (Sp.iG (Ud a s p x) 0 ((a.getD x []).length) aD (λy hy qf=>by
    have w1:=ga.mF (aD:x<n) (aD:y<k);have Bt:=nu (ia s ((a.getD x []).getD y gL) p);exact gX (aa [iX (x:Int) (a.length) aD,tT 36 ((y:Int)<((a.getD x []).length:Int)) aD,iX (x:Int) (a.length) aD,iX (y:Int) ((a.getD x []).length) aD,.c (qH s ((a.getD x []).getD y gL) p aE aE aD aD),.o 50 (.e (lD _):ai (.sl true 1 7 λi_ j_=>(iA (ia s ((a.getD x []).getD y gL) p)).getD (i_*7+j_) (.v (.bool false))) (ic [ia s ((a.getD x []).getD y gL) p])),.a (aD:(y+[ia s ((a.getD x []).getD y gL) p].length)*88<=140737488355328),gW ((y:Int)+1) aD]<|.e (ae [.b 9 (we rfl rfl rfl:Bx.le (.row true 46 (y+[ia s ((a.getD x []).getD y gL) p].length) 7 (λi_ j_=>if i_<y then(ja ((List.range y).map (BX s a x p))) i_ j_ else(E.ke (ic [ia s ((a.getD x []).getD y gL) p])) (i_-y) j_)) (.row true 46 (y+1) 7 (ja ((List.range (y+1)).map (BX s a x p)))))])) aG)
  (λhy=>by
    exact gX (aa [iX (x:Int) (a.length) aD,tF 36 (((a.getD x []).length:Int)<((a.getD x []).length:Int)) aD,.z 9]<|.e (ae [.o 9 (.e (sC aJ):ai (.sl true ((a.getD x []).length) 7 (ja ((List.range ((a.getD x []).length)).map (λj_=>(ia s ((a.getD x []).getD j_ gL) p))))) (ic ((List.range (a.getD x []).length).map (λj_=>(ia s ((a.getD x []).getD j_ gL) p)))))])) aG) aK:iF 9 f138 (Ud a s p x 0) (.exit 2) ⟨57,true,[(9,.e (ic ((List.range (a.getD x []).length).map (BX s a x p)))),(7,.own 7),(8,.e (iP x)),(4,.box 4 0),(0,.e (gV a)),(2,.e (iP p))],[(7,.row true 26 x 1 (lj ((List.range x).map (As a s p)))),(4,.cells 46 (iA s))]⟩) .nil,.a (aD:(x+1)*24<=140737488355328),gW ((x:Int)+1) aD]<|.e (ae [.b 7 (Af rfl rfl rfl (λj hj=>by cases dT.1 hj;rfl):Bx.le (.row true 26 (x+1) 1 (λi_ j_=>if i_<x then(lj ((List.range x).map (As a s p))) i_ j_ else(E.ke (.sl true 1 1 λi_ j_=>[ic ((List.range (a.getD x []).length).map (BX s a x p))].getD (i_*1+j_) (.v (.bool false)))) (i_-x) j_)) (.row true 26 (x+1) 1 (lj ((List.range (x+1)).map (As a s p)))))])) aG)
  (λhx=>by
    exact gX (aa [tF 27 ((a.length:Int)<a.length) aD,.z 7]<|.e (ae [.o 7 (.e (Ae aJ):ai (.sl true a.length 1 (lj ((List.range a.length).map (λi_=>(List.range (a.getD i_ []).length).map (λj_=>(ia s ((a.getD i_ []).getD j_ gL) p)))))) (gV ((List.range a.length).map (λi_=>(List.range (a.getD i_ []).length).map (λj_=>(ia s ((a.getD i_ []).getD j_ gL) p))))))])) aG) aK:iF 5 f138 (Uc a s p 0) (.exit 0) ⟨57,true,[(7,.e (gV ((List.range a.length).map (As a s p))))],[]⟩) .nil]<|rQ (gV ((List.range a.length).map (λi_=>(List.range (a.getD i_ []).length).map (λj_=>(ia s ((a.getD i_ []).getD j_ gL) p))))) (gV (lM a s p)) (by rw[<-WH];try rfl)) 
def AE(n:Nat)(h1:1<=n)(h8:n<=8):gJ 136 [iP n] (gV (yv n)):=
 aj call136 func136 (ae [tF 9 ((n:Int)<1) aD,tF 12 (8<(n:Int)) aD,.y 3 3 true 26 1 (lj ((List.range 0).map (λi_=>(List.range n).map (λj_=>(gZ (if i_=j_ then(Dy.mk false 1 0)else ix)))))),.s (Sp.iG (T8 n) 0 n aD (λx hx jf=>by
    exact gX (aa [tT 16 ((x:Int)<n) aD,.y 5 5 true 46 7 (ja ((List.range 0).map (λj_=>(gZ (if x=j_ then(Dy.mk false 1 0)else ix))))),.s (Sp.iG (T9 n x) 0 n aD (λy hy qf=>by
    have Bt:=nu (gZ (Dy.mk ix.neg 1 ix.e));have Bu:=nu (gZ ix);by_cases h:x=y
    .exact gX (aa [tT 21 ((y:Int)<n) aD,.o 24 (.e qM:ai (.agg aq) (gM ix)),ag 27 ((x:Int)==y) (a8 aD),.o 28 (.e uC:ai (.sl false 1 1 λi_ j_=>[.v (.int .u32 1)].getD (i_*1+j_) (.v (.bool false))) (gO (gK 1))),.c (vA (Dy.mk ix.neg 1 ix.e)),.o 33 (.e (lD _):ai (.sl true 1 7 λi_ j_=>(iA G2).getD (i_*7+j_) (.v (.bool false))) (ic [G2])),.a (aD:(y+[gZ (Dy.mk ix.neg 1 ix.e)].length)*88<=140737488355328),gW ((y:Int)+1) aD]<|.e (ae [.b 5 (we rfl rfl (by rw[bj h];rfl):Bx.le (.row true 46 (y+[G2].length) 7 (λi_ j_=>if i_<y then(ja ((List.range y).map (λj_=>(gZ (if x=j_ then(Dy.mk false 1 0)else ix))))) i_ j_ else(E.ke (ic [G2])) (i_-y) j_)) (.row true 46 (y+1) 7 (ja ((List.range (y+1)).map (λj_=>(gZ (if x=j_ then(Dy.mk false 1 0)else ix)))))))])) aG 
    .exact gX (aa [tT 21 ((y:Int)<n) aD,.o 24 (.e qM:ai (.agg aq) (gM ix)),ah 27 ((x:Int)==y) (a7 aD),.c (vA ix),.o 33 (.e (lD _):ai (.sl true 1 7 λi_ j_=>(iA (gZ ix)).getD (i_*7+j_) (.v (.bool false))) (ic [gZ ix])),.a (aD:(y+[gZ ix].length)*88<=140737488355328),
      gW ((y:Int)+1) aD]<|.e (ae [.b 5 (we rfl rfl (by rw[bh h]):Bx.le (.row true 46 (y+[gZ ix].length) 7 (λi_ j_=>if i_<y then(ja ((List.range y).map (λj_=>(gZ (if x=j_ then(Dy.mk false 1 0)else ix))))) i_ j_ else(E.ke (ic [gZ ix])) (i_-y) j_)) (.row true 46 (y+1) 7 (ja ((List.range (y+1)).map (λj_=>(gZ (if x=j_ then(Dy.mk false 1 0)else ix)))))))])) aG)
  (λhy=>by
    exact gX (aa [tF 21 ((n:Int)<n) aD,.z 5]<|.e (ae [.o 5 (.e (sC aJ):ai (.sl true n 7 (ja ((List.range n).map (λj_=>(gZ (if x=j_ then(Dy.mk false 1 0)else ix)))))) (ic ((List.range n).map (λj_=>(gZ (if x=j_ then(Dy.mk false 1 0)else ix))))))])) aG) aK:iF 9 f136 (T9 n x 0) (.exit 2) ⟨40,true,[(5,.e (ic ((List.range n).map (λj_=>(gZ (if x=j_ then(Dy.mk false 1 0)else ix)))))),(3,.own 3),(4,.e (iP x)),(0,.e (iP n))],[(3,.row true 26 x 1 (lj ((List.range x).map (λi_=>(List.range n).map (λj_=>(gZ (if i_=j_ then(Dy.mk false 1 0)else ix)))))))]⟩) .nil,.a (aD:(x+1)*24<=140737488355328),gW ((x:Int)+1) aD]<|.e (ae [.b 3 (Af rfl rfl rfl (λj hj=>by cases dT.1 hj;rfl):Bx.le (.row true 26 (x+1) 1 (λi_ j_=>if i_<x then(lj ((List.range x).map (λi_=>(List.range n).map (λj_=>(gZ (if i_=j_ then(Dy.mk false 1 0)else ix)))))) i_ j_ else(E.ke (.sl true 1 1 λi_ j_=>[ic ((List.range n).map (λj_=>(gZ (if x=j_ then(Dy.mk false 1 0)else ix))))].getD (i_*1+j_) (.v (.bool false)))) (i_-x) j_)) (.row true 26 (x+1) 1 (lj ((List.range (x+1)).map (λi_=>(List.range n).map (λj_=>(gZ (if i_=j_ then(Dy.mk false 1 0)else ix))))))))])) aG)
  (λhx=>by
    exact gX (aa [tF 16 ((n:Int)<n) aD,.z 3]<|.e (ae [.o 3 (.e (Ae aJ):ai (.sl true n 1 (lj ((List.range n).map (λi_=>(List.range n).map (λj_=>(gZ (if i_=j_ then(Dy.mk false 1 0)else ix))))))) (gV ((List.range n).map (λi_=>(List.range n).map (λj_=>(gZ (if i_=j_ then(Dy.mk false 1 0)else ix)))))))])) aG) aK:iF 5 f136 (T8 n 0) (.exit 0) ⟨40,true,[(3,.e (gV ((List.range n).map (λi_=>(List.range n).map (λj_=>(gZ (if i_=j_ then(Dy.mk false 1 0)else ix)))))))],[]⟩) .nil]) 
def Fp.xD:Dy:=⟨false,1,0⟩
def ad7:xD.gQ:=by have:=ux 1 aF;rw[tm]at this;exact this
def Rm(n:Nat)(x:Nat):PS:=⟨42,true,[(17,.e (iP x)),(16,.e (iP n)),(3,.own 14),(0,.e (iP n))],[(14,.iH true 26 46 n 7 (iS (iL n (λ_=>n) (λi j=>gZ (if i=j then⟨false,1,0⟩else ix)) x 0)) (jH (iL n (λ_=>n) (λi j=>gZ (if i=j then⟨false,1,0⟩else ix)) x 0)) .none)]⟩
def Rn(n x:Nat)(k:Nat):PS:=⟨42,true,[(21,.e (iP k)),(20,.e (iP n)),(4,.e (iP x)),(17,.e (iP x)),(16,.e (iP n)),(3,.own 14),(0,.e (iP n))],[(14,.iH true 26 46 n 7 (iS (iL n (λ_=>n) (λi j=>gZ (if i=j then⟨false,1,0⟩else ix)) x k)) (jH (iL n (λ_=>n) (λi j=>gZ (if i=j then⟨false,1,0⟩else ix)) x k)) .none)]⟩
def A8(n:Nat)(h:n<4294967296):gJ 180 [iP n] (gM (jI (n:Int))):=by
 have ok2:iw [n%4294967296,n/4294967296%4294967296]:=iw.cons (bA _ aF) (iw.cons (bA _ aF) iw.nil);exact aj call180 func180 (aa [.o 5 (.int (oH _ aD):ai (.v (.int .u64 (IntKind.u64.wrap (n:Int)))) (.v (.int .u64 (n:Int)))),tF 7 ((n:Int)<0) aD,tF 11 ((n:Int)<0) aD,.o 13 (.int (q9 _):ai (.v (.int .u32 (IntKind.u32.wrap (n:Int)))) (.v (.int .u32 ((n%4294967296:Nat):Int)))),.a (aD:0<=(32:Int)/\(32:Int)<=((64:Nat):Int)),.o 15 (.int (xJ _):ai (.v (.int .u64 ((n:Int)/2^32))) (.v (.int .u64 ((n/4294967296:Nat):Int)))),.o 16 (.int (q9 _):ai (.v (.int .u32 (IntKind.u32.wrap ((n/4294967296:Nat):Int)))) (.v (.int .u32 (((n/4294967296)%4294967296:Nat):Int)))),.o 17 (.e (Wo _ _):ai (.sl false 2 1 λi_ j_=>[.v (.int .u32 ((n%4294967296:Nat):Int)),.v (.int .u32 (((n/4294967296)%4294967296:Nat):Int))].getD (i_*1+j_) (.v (.bool false))) (gO [n%4294967296,(n/4294967296)%4294967296])),af [bP false,gO [n%4294967296,(n/4294967296)%4294967296],iP 0] (OO _ _ _ ok2 aJ aF aF)]<|rQ (gM (canon false (val [n%4294967296,(n/4294967296)%4294967296]) 0)) (gM (jI (n:Int))) (by rw[WA,(aD:n%4294967296+4294967296*(n/4294967296%4294967296)=n),tm])) 
def wu(n:Nat)(h:n<4294967296):gJ 129 [iP n] (gR (gY (n:Int))):=by
 have v:=ux n h;exact aj call129 func129 (ae [af [iP n] (A8 _ aD),.c (xt (jI (n:Int)) aE)]) 
def So(n:Nat)(h1:1<=n)(h8:n<=8):gJ 125 [iP n] (gV (yv n)):=by
 have v1:=ad7;have v0:=re;have int1:gJ 180 [iP 1] (gM xD):=A8 1 aF;have int0:gJ 180 [iP 0] (gM ix):=A8 0 aF;have ew:mn n (λ_=>n) (λi j=>gZ (if i=j then⟨false,1,0⟩else ix))=yv n:=rfl;exact aj call125 func125 (aa [tF 8 ((n:Int)<1) aD,tF 11 (8<(n:Int)) aD,.a (aD:0<=((n:Int):Int)/\((n:Int):Int)<=((n:Int):Int)),.a (aD:((24:Nat):Int)*(n:Int)<=281474976710656/\((n:Int):Int)<=9223372036854775807),.s (Sp.iG (Rm n) 0 n aD (λx hx jf=>by
    exact gX (aa [tT 18 ((x:Int)<n) aD,.s (Sp.iG (Rn n x) 0 n aD (λk hk oJ=>by
    have hle:iS (iL n (λ_=>n) (λi j=>gZ (if i=j then⟨false,1,0⟩else ix)) x k) x=k:=DJ aD ;by_cases c1:x=k
    .have h1:=nu (gZ xD);exact gX (aa [tT 22 ((k:Int)<n) aD,ag 26 ((x:Int)==k) (DY c1),iX (x:Int) n aD,.a (aD:x<n),af [iP 1] int1,.c (xt xD aE),.o 36 (.e (lD _):ai (.sl true 1 7 λi_ j_=>(iA (gZ xD)).getD (i_*7+j_) (.v (.bool false))) (ic [gZ xD])),.a (aD:x<n),.a (aD:((iS (iL n (λ_=>n) (λi j=>gZ (if i=j then⟨false,1,0⟩else ix)) x k)) x+[gZ xD].length)*88<=140737488355328),iX (x:Int) n aD,.a (rfl:x=x),.a (rfl:x=x),.a (aD:x<n),gW ((k:Int)+1) aD]<|.e (ae [.b 14 (Ck rfl aD aD (by rw[bj c1];rfl):Bx.le (.iH true 26 46 n 7 (λq=>if q=x then(iS (iL n (λ_=>n) (λi j=>gZ (if i=j then⟨false,1,0⟩else ix)) x k)) q+[gZ xD].length else(iS (iL n (λ_=>n) (λi j=>gZ (if i=j then⟨false,1,0⟩else ix)) x k)) q) (λq i j=>if q=x then(if i<(iS (iL n (λ_=>n) (λi j=>gZ (if i=j then⟨false,1,0⟩else ix)) x k)) q then(jH (iL n (λ_=>n) (λi j=>gZ (if i=j then⟨false,1,0⟩else ix)) x k)) q i j else(E.ke (ic [gZ xD])) (i-(iS (iL n (λ_=>n) (λi j=>gZ (if i=j then⟨false,1,0⟩else ix)) x k)) q) j)else(jH (iL n (λ_=>n) (λi j=>gZ (if i=j then⟨false,1,0⟩else ix)) x k)) q i j) .none) (.iH true 26 46 n 7 (iS (iL n (λ_=>n) (λi j=>gZ (if i=j then⟨false,1,0⟩else ix)) x (k+1))) (jH (iL n (λ_=>n) (λi j=>gZ (if i=j then⟨false,1,0⟩else ix)) x (k+1))) .none))])) aG 
    .have h1:=nu (gZ ix);exact gX (aa [tT 22 ((k:Int)<n) aD,ah 26 ((x:Int)==k) (SG c1),iX (x:Int) n aD,.a (aD:x<n),af [iP 0] int0,.c (xt ix aE),.o 36 (.e (lD _):ai (.sl true 1 7 λi_ j_=>(iA (gZ ix)).getD (i_*7+j_) (.v (.bool false))) (ic [gZ ix])),.a (aD:x<n),.a (aD:((iS (iL n (λ_=>n) (λi j=>gZ (if i=j then⟨false,1,0⟩else ix)) x k)) x+[gZ ix].length)*88<=140737488355328),iX (x:Int) n aD,.a (rfl:x=x),.a (rfl:x=x),.a (aD:x<n),gW ((k:Int)+1) aD]<|.e (ae [.b 14 (Ck rfl aD aD (by rw[bh c1]):Bx.le (.iH true 26 46 n 7 (λq=>if q=x then(iS (iL n (λ_=>n) (λi j=>gZ (if i=j then⟨false,1,0⟩else ix)) x k)) q+[gZ ix].length else(iS (iL n (λ_=>n) (λi j=>gZ (if i=j then⟨false,1,0⟩else ix)) x k)) q) (λq i j=>if q=x then(if i<(iS (iL n (λ_=>n) (λi j=>gZ (if i=j then⟨false,1,0⟩else ix)) x k)) q then(jH (iL n (λ_=>n) (λi j=>gZ (if i=j then⟨false,1,0⟩else ix)) x k)) q i j else(E.ke (ic [gZ ix])) (i-(iS (iL n (λ_=>n) (λi j=>gZ (if i=j then⟨false,1,0⟩else ix)) x k)) q) j)else(jH (iL n (λ_=>n) (λi j=>gZ (if i=j then⟨false,1,0⟩else ix)) x k)) q i j) .none) (.iH true 26 46 n 7 (iS (iL n (λ_=>n) (λi j=>gZ (if i=j then⟨false,1,0⟩else ix)) x (k+1))) (jH (iL n (λ_=>n) (λi j=>gZ (if i=j then⟨false,1,0⟩else ix)) x (k+1))) .none))])) aG)
  (λhk=>by
    exact gX (ae [tF 22 ((n:Int)<n) aD]) aG) aK:iF 8 f125 (Rn n x 0) (.exit 2) ⟨42,true,[(17,.e (iP x)),(16,.e (iP n)),(3,.own 14),(0,.e (iP n))],[(14,.iH true 26 46 n 7 (iS (iL n (λ_=>n) (λi j=>gZ (if i=j then⟨false,1,0⟩else ix)) x n)) (jH (iL n (λ_=>n) (λi j=>gZ (if i=j then⟨false,1,0⟩else ix)) x n)) .none)]⟩) .nil,
     gW ((x:Int)+1) aD]<|.e (ae [.b 14 (Er rfl:Bx.le (.iH true 26 46 n 7 (iS (iL n (λ_=>n) (λi j=>gZ (if i=j then⟨false,1,0⟩else ix)) x n)) (jH (iL n (λ_=>n) (λi j=>gZ (if i=j then⟨false,1,0⟩else ix)) x n)) .none) (.iH true 26 46 n 7 (iS (iL n (λ_=>n) (λi j=>gZ (if i=j then⟨false,1,0⟩else ix)) (x+1) 0)) (jH (iL n (λ_=>n) (λi j=>gZ (if i=j then⟨false,1,0⟩else ix)) (x+1) 0)) .none))])) aG)
  (λhx=>by
    exact gX (ae [tF 18 ((n:Int)<n) aD]) aG) aK:iF 5 f125 (Rm n 0) (.exit 0) ⟨42,true,[(3,.own 14)],[(14,.iH true 26 46 n 7 (iS (iL n (λ_=>n) (λi j=>gZ (if i=j then⟨false,1,0⟩else ix)) n 0)) (jH (iL n (λ_=>n) (λi j=>gZ (if i=j then⟨false,1,0⟩else ix)) n 0)) .none)]⟩) (ae [.b 14 (Ep rfl:Bx.le (.iH true 26 46 n 7 (λ_=>0) (λ_ _ _=>.any) .none) (.iH true 26 46 n 7 (iS (iL n (λ_=>n) (λi j=>gZ (if i=j then⟨false,1,0⟩else ix)) 0 0)) (jH (iL n (λ_=>n) (λi j=>gZ (if i=j then⟨false,1,0⟩else ix)) 0 0)) .none))])]<|rR (gV (yv n)) (by
      rw[<-ew,<-E3];exact BL (E4 _ _ _ _ _).symm:E.le (.sl true n 1 λk_ _=>.sl true ((iS (iL n (λ_=>n) (λi j=>gZ (if i=j then⟨false,1,0⟩else ix)) n 0)) k_) 7 ((jH (iL n (λ_=>n) (λi j=>gZ (if i=j then⟨false,1,0⟩else ix)) n 0)) k_)) (gV (yv n)))) 
abbrev qL(m:List (List Iv))(x)(p):=jA (m.getD x []) p ((m.getD x []).length)
abbrev AQ(m:List (List Iv))(x)(k):=ku ((m.getD x []).getD k gL)
abbrev Cy(m:List (List Iv))(x)(p)(k):=iy (ji (iM (jA (m.getD x []) p k) (AQ m x k)) p true)
abbrev MG:E:=.agg aq
def SZ(m:List (List Iv))(p:Nat)(x:Nat):PS:=⟨64,true,[(27,.e (iP x)),(26,.e (iP m.length)),(25,.e (gV m)),(6,.box 6 0),(4,.box 4 0),(1,.e (iP p))],[(6,.cells 39 (iy (jF m p x))),(4,.cells 39 aq)]⟩
def uA(m:List (List Iv))(p x:Nat)(k:Nat):PS:=⟨64,true,[(33,.e (iP k)),(32,.e (iP ((m.getD x []).length:Int))),(31,.e (ic (m.getD x []))),(9,.box 9 0),(27,.e (iP x)),(26,.e (iP m.length)),(25,.e (gV m)),(6,.box 6 0),(4,.box 4 0),(1,.e (iP p))],[(9,.cells 39 (iy (jA (m.getD x []) p k))),(6,.cells 39 (iy (jF m p x))),(4,.cells 39 aq)]⟩
def SV(m:List (List Iv))(p N:Nat)(x:Nat):PS:=⟨64,true,[(27,.e (iP x)),(26,.e (iP m.length)),(25,.e (gV m)),(6,.box 6 0),(4,.box 4 0),(1,.e (iP p))],[(6,.cells 39 (iy (jF m p x))),(4,.cells 39 aq)]⟩
def SW(m:List (List Iv))(p N K:Nat)(k:Nat):PS:=⟨64,true,[(33,.e (iP k)),(32,.e (iP ((m.getD N []).length:Int))),(31,.e (ic (m.getD N []))),(9,.box 9 0),(27,.e (iP N)),(26,.e (iP m.length)),(25,.e (gV m)),(6,.box 6 0),(4,.box 4 0),(1,.e (iP p))],[(9,.cells 39 (iy (jA (m.getD N []) p k))),(6,.cells 39 (iy (jF m p N))),(4,.cells 39 aq)]⟩
def SX(m:List (List Iv))(p N:Nat)(x:Nat):PS:=⟨64,true,[(27,.e (iP x)),(26,.e (iP m.length)),(25,.e (gV m)),(6,.box 6 0),(4,.box 4 0),(1,.e (iP p))],[(6,.cells 39 (iy (jF m p x))),(4,.cells 39 aq)]⟩
def SY(m:List (List Iv))(p N K:Nat)(k:Nat):PS:=⟨64,true,[(33,.e (iP k)),(32,.e (iP ((m.getD N []).length:Int))),(31,.e (ic (m.getD N []))),(9,.box 9 0),(27,.e (iP N)),(26,.e (iP m.length)),(25,.e (gV m)),(6,.box 6 0),(4,.box 4 0),(1,.e (iP p))],[(9,.cells 39 (iy (jA (m.getD N []) p k))),(6,.cells 39 (iy (jF m p N))),(4,.cells 39 aq)]⟩
def ack(x:Iv)(hx:x.gQ)(kp:x.all=true):gJ 165 [gR x] (.hH [gM ix,bP false]):=
 aj call165 func165 (ae [.o 5 (.e (lD _):ai (.sl true 1 7 λi_ j_=>(iA x).getD (i_*7+j_) (.v (.bool false))) (ic [x])),af [ic [x]] (rB _ aE),ah 6 (!x.all) (by rw[kp];rfl),.o 8 (.e qM:ai MG (gM ix))]) 
def ad0(m:List (List Iv))(n c p:Nat)(ga:iY m n c)(ie:8<=p)(gS:p<=512)(hg:∀ x,x<m.length->∀ k,k<(m.getD x []).length->nK (m.getD x []) p k):gJ 200 [gV m,iP p] (.hH [gM (jF m p m.length),bP true]):=by
 have ra:=ga.iH;have n8:=ga.n8;have c8:=ga.k8;exact aj call200 func200 (ae [af [gV m] (wm _ _ _ aE),af [iP p] (BN _),ag 21 (jV (p:Int)) (mm.2 ⟨aD,aD⟩),.s (Sp.iG (SZ m p) 0 m.length aD (λx hx jf=>by
    have lx:=ga.kS (aD:x<n);have u1:=oi (m.getD x []) (aD:1<=p) aD (m.getD x []).length;have u2:=xA m (aD:1<=p) aD x;by_cases c1:0<jh (jA (m.getD x []) p ((m.getD x []).length)) (jF m p x)
    .exact gX (aa [tT 28 ((x:Int)<m.length) aD,iX (x:Int) (m.length) aD,.s (Sp.iG (uA m p x) 0 ((m.getD x []).length) aD (λk hk oJ=>by
    have gg:=(hg x aD) k aD;have v1:=oi (m.getD x []) (aD:1<=p) aD k;have v2:=ga.mF (aD:x<n) (aD:k<c);have gga:=gg.all;have v3:=pJ v2.kn.1 v2.kn.2;exact gX (aa [tT 34 ((k:Int)<((m.getD x []).length:Int)) aD,iX (k:Int) ((m.getD x []).length) aD,.c (wc ((m.getD x []).getD k gL) aE gga),.c (wG (jA (m.getD x []) p k) (AQ m x k) p aE aE aD aD),ah 53 ((jl (iM (jA (m.getD x []) p k) (ku ((m.getD x []).getD k gL))) p true) != 0) (by rw[gg.qU];rfl),gW ((k:Int)+1) aD]<|.e (ae [.b 9 (.iD rfl:Bx.le (.cells 39 (Cy m x p k)) (.cells 39 (iy (jA (m.getD x []) p (k+1)))))])) aG)
  (λhk=>by
    exact gX (ae [tF 34 (((m.getD x []).length:Int)<((m.getD x []).length:Int)) aD]) aG) aK:iF 9 f200 (uA m p x 0) (.exit 2) ⟨64,true,[(9,.box 9 0),(27,.e (iP x)),(26,.e (iP m.length)),(25,.e (gV m)),(6,.box 6 0),(4,.box 4 0),(1,.e (iP p))],[(9,.cells 39 (iy (qL m x p))),(6,.cells 39 (iy (jF m p x))),(4,.cells 39 aq)]⟩) (ae [.b 9 (.cells (λ_=>rfl) pE:Bx.le (.cells 39 aq) (.cells 39 (iy (jA (m.getD x []) p 0))))]),af [gM (qL m x p),gM (jF m p x)] (nT _ _ aE aE),tB 60 (bk c1),gW ((x:Int)+1) aD]<|.e (ae [.b 6 (.iD (by rw[show jF m p (x+1)=(qL m x p)from bj c1]):Bx.le (.cells 39 (iy (qL m x p))) (.cells 39 (iy (jF m p (x+1)))))])) aG 
    .exact gX (aa [tT 28 ((x:Int)<m.length) aD,iX (x:Int) (m.length) aD,.s (Sp.iG (uA m p x) 0 ((m.getD x []).length) aD (λk hk oJ=>by
    have gg:=(hg x aD) k aD;have v1:=oi (m.getD x []) (aD:1<=p) aD k;have v2:=ga.mF (aD:x<n) (aD:k<c);have gga:=gg.all;have v3:=pJ v2.kn.1 v2.kn.2;exact gX (aa [tT 34 ((k:Int)<((m.getD x []).length:Int)) aD,iX (k:Int) ((m.getD x []).length) aD,.c (wc ((m.getD x []).getD k gL) aE gga),.c (wG (jA (m.getD x []) p k) (AQ m x k) p aE aE aD aD),ah 53 ((jl (iM (jA (m.getD x []) p k) (ku ((m.getD x []).getD k gL))) p true) != 0) (by rw[gg.qU];rfl),gW ((k:Int)+1) aD]<|.e (ae [.b 9 (.iD rfl:Bx.le (.cells 39 (Cy m x p k)) (.cells 39 (iy (jA (m.getD x []) p (k+1)))))])) aG)
  (λhk=>by
    exact gX (ae [tF 34 (((m.getD x []).length:Int)<((m.getD x []).length:Int)) aD]) aG) aK:iF 9 f200 (uA m p x 0) (.exit 2) ⟨64,true,[(9,.box 9 0),(27,.e (iP x)),(26,.e (iP m.length)),(25,.e (gV m)),(6,.box 6 0),(4,.box 4 0),(1,.e (iP p))],[(9,.cells 39 (iy (qL m x p))),(6,.cells 39 (iy (jF m p x))),(4,.cells 39 aq)]⟩) (ae [.b 9 (.cells (λ_=>rfl) pE:Bx.le (.cells 39 aq) (.cells 39 (iy (jA (m.getD x []) p 0))))]),af [gM (qL m x p),gM (jF m p x)] (nT _ _ aE aE),tB 60 (bl c1),gW ((x:Int)+1) aD]<|.e (ae [.b 6 (.iD (by rw[show jF m p (x+1)=(jF m p x)from bh c1]):Bx.le (.cells 39 (iy (jF m p x))) (.cells 39 (iy (jF m p (x+1)))))])) aG)
  (λhx=>by
    exact gX (ae [tF 28 ((m.length:Int)<m.length) aD]) aG) aK:iF 5 f200 (SZ m p 0) (.exit 0) ⟨64,true,[(6,.box 6 0),(4,.box 4 0)],[(6,.cells 39 (iy (jF m p m.length))),(4,.cells 39 aq)]⟩) (ae [.b 6 (.cells (λ_=>rfl) pE:Bx.le (.cells 39 aq) (.cells 39 (iy (jF m p 0))))])]) 
def adW(m:List (List Iv))(n c p:Nat)(ga:iY m n c)(ie:8<=p)(gS:p<=512)(N K:Nat)(hN:N<m.length)(hK:K<(m.getD N []).length)(hg:∀ x,x<N->∀ k,k<(m.getD x []).length->nK (m.getD x []) p k)(zG:∀ k,k<K->nK (m.getD N []) p k)(mS:((m.getD N []).getD K gL).all=true):gJ 200 [gV m,iP p] (.hH [gM ix,bP false]):=by
 have ra:=ga.iH;have n8:=ga.n8;have c8:=ga.k8;exact aj call200 func200 (ae [af [gV m] (wm _ _ _ aE),af [iP p] (BN _),ag 21 (jV (p:Int)) (mm.2 ⟨aD,aD⟩),.s (Sp.iG (SV m p N) 0 N aD (λx hx jf=>by
    have lx:=ga.kS (aD:x<n);have u1:=oi (m.getD x []) (aD:1<=p) aD (m.getD x []).length;have u2:=xA m (aD:1<=p) aD x;by_cases c1:0<jh (jA (m.getD x []) p ((m.getD x []).length)) (jF m p x)
    .exact gX (aa [tT 28 ((x:Int)<m.length) aD,iX (x:Int) (m.length) aD,.s (Sp.iG (uA m p x) 0 ((m.getD x []).length) aD (λk hk oJ=>by
    have gg:=(hg x aD) k aD;have v1:=oi (m.getD x []) (aD:1<=p) aD k;have v2:=ga.mF (aD:x<n) (aD:k<c);have gga:=gg.all;have v3:=pJ v2.kn.1 v2.kn.2;exact gX (aa [tT 34 ((k:Int)<((m.getD x []).length:Int)) aD,iX (k:Int) ((m.getD x []).length) aD,.c (wc ((m.getD x []).getD k gL) aE gga),.c (wG (jA (m.getD x []) p k) (AQ m x k) p aE aE aD aD),ah 53 ((jl (iM (jA (m.getD x []) p k) (ku ((m.getD x []).getD k gL))) p true) != 0) (by rw[gg.qU];rfl),gW ((k:Int)+1) aD]<|.e (ae [.b 9 (.iD rfl:Bx.le (.cells 39 (Cy m x p k)) (.cells 39 (iy (jA (m.getD x []) p (k+1)))))])) aG)
  (λhk=>by
    exact gX (ae [tF 34 (((m.getD x []).length:Int)<((m.getD x []).length:Int)) aD]) aG) aK:iF 9 f200 (uA m p x 0) (.exit 2) ⟨64,true,[(9,.box 9 0),(27,.e (iP x)),(26,.e (iP m.length)),(25,.e (gV m)),(6,.box 6 0),(4,.box 4 0),(1,.e (iP p))],[(9,.cells 39 (iy (qL m x p))),(6,.cells 39 (iy (jF m p x))),(4,.cells 39 aq)]⟩) (ae [.b 9 (.cells (λ_=>rfl) pE:Bx.le (.cells 39 aq) (.cells 39 (iy (jA (m.getD x []) p 0))))]),af [gM (qL m x p),gM (jF m p x)] (nT _ _ aE aE),tB 60 (bk c1),gW ((x:Int)+1) aD]<|.e (ae [.b 6 (.iD (by rw[show jF m p (x+1)=(qL m x p)from bj c1]):Bx.le (.cells 39 (iy (qL m x p))) (.cells 39 (iy (jF m p (x+1)))))])) aG 
    .exact gX (aa [tT 28 ((x:Int)<m.length) aD,iX (x:Int) (m.length) aD,.s (Sp.iG (uA m p x) 0 ((m.getD x []).length) aD (λk hk oJ=>by
    have gg:=(hg x aD) k aD;have v1:=oi (m.getD x []) (aD:1<=p) aD k;have v2:=ga.mF (aD:x<n) (aD:k<c);have gga:=gg.all;have v3:=pJ v2.kn.1 v2.kn.2;exact gX (aa [tT 34 ((k:Int)<((m.getD x []).length:Int)) aD,iX (k:Int) ((m.getD x []).length) aD,.c (wc ((m.getD x []).getD k gL) aE gga),.c (wG (jA (m.getD x []) p k) (AQ m x k) p aE aE aD aD),ah 53 ((jl (iM (jA (m.getD x []) p k) (ku ((m.getD x []).getD k gL))) p true) != 0) (by rw[gg.qU];rfl),gW ((k:Int)+1) aD]<|.e (ae [.b 9 (.iD rfl:Bx.le (.cells 39 (Cy m x p k)) (.cells 39 (iy (jA (m.getD x []) p (k+1)))))])) aG)
  (λhk=>by
    exact gX (ae [tF 34 (((m.getD x []).length:Int)<((m.getD x []).length:Int)) aD]) aG) aK:iF 9 f200 (uA m p x 0) (.exit 2) ⟨64,true,[(9,.box 9 0),(27,.e (iP x)),(26,.e (iP m.length)),(25,.e (gV m)),(6,.box 6 0),(4,.box 4 0),(1,.e (iP p))],[(9,.cells 39 (iy (qL m x p))),(6,.cells 39 (iy (jF m p x))),(4,.cells 39 aq)]⟩) (ae [.b 9 (.cells (λ_=>rfl) pE:Bx.le (.cells 39 aq) (.cells 39 (iy (jA (m.getD x []) p 0))))]),af [gM (qL m x p),gM (jF m p x)] (nT _ _ aE aE),tB 60 (bl c1),gW ((x:Int)+1) aD]<|.e (ae [.b 6 (.iD (by rw[show jF m p (x+1)=(jF m p x)from bh c1]):Bx.le (.cells 39 (iy (jF m p x))) (.cells 39 (iy (jF m p (x+1)))))])) aG)
  (λhx=>by
    have lN:=ga.kS (aD:N<n);exact gX (ae [tT 28 ((N:Int)<m.length) aD,iX (N:Int) (m.length) aD,.s (Sp.iG (SW m p N K) 0 K aD (λk hk oJ=>by
    have gg:=zG k aD;have v1:=oi (m.getD N []) (aD:1<=p) aD k;have v2:=ga.mF (aD:N<n) (aD:k<c);have gga:=gg.all;have v3:=pJ v2.kn.1 v2.kn.2;exact gX (aa [tT 34 ((k:Int)<((m.getD N []).length:Int)) aD,iX (k:Int) ((m.getD N []).length) aD,.c (wc ((m.getD N []).getD k gL) aE gga),.c (wG (jA (m.getD N []) p k) (ku ((m.getD N []).getD k gL)) p aE aE aD aD),ah 53 ((jl (iM (jA (m.getD N []) p k) (ku ((m.getD N []).getD k gL))) p true) != 0) (by rw[gg.qU];rfl),gW ((k:Int)+1) aD]<|.e (ae [.b 9 (.iD rfl:Bx.le (.cells 39 (iy (ji (iM (jA (m.getD N []) p k) (ku ((m.getD N []).getD k gL))) p true))) (.cells 39 (iy (jA (m.getD N []) p (k+1)))))])) aG)
  (λhk=>by
    have v1:=oi (m.getD N []) (aD:1<=p) aD K;have v2:=ga.mF (aD:N<n) (aD:K<c);have v3:=pJ v2.kn.1 v2.kn.2;exact gX (ae [tT 34 ((K:Int)<((m.getD N []).length:Int)) aD,iX (K:Int) ((m.getD N []).length) aD,af [gR ((m.getD N []).getD K gL)] (ack _ aE mS),.o 44 (.e qM:ai MG (gM ix))]) aG) aK:iF 9 f200 (SW m p N K 0) .ret ⟨64,true,[(5,.e (bP false)),(4,.box 4 0)],[(4,.cells 39 (iy ix))]⟩) (ae [.b 9 (.cells (λ_=>rfl) pE:Bx.le (.cells 39 aq) (.cells 39 (iy (jA (m.getD N []) p 0))))])]) aG) aK:iF 5 f200 (SV m p N 0) .ret ⟨64,true,[(5,.e (bP false)),(4,.box 4 0)],[(4,.cells 39 (iy ix))]⟩) (ae [.b 6 (.cells (λ_=>rfl) pE:Bx.le (.cells 39 aq) (.cells 39 (iy (jF m p 0))))])]) 
def adX(m:List (List Iv))(n c p:Nat)(ga:iY m n c)(ie:8<=p)(gS:p<=512)(N K:Nat)(hN:N<m.length)(hK:K<(m.getD N []).length)(hg:∀ x,x<N->∀ k,k<(m.getD x []).length->nK (m.getD x []) p k)(zG:∀ k,k<K->nK (m.getD N []) p k)(nU:((m.getD N []).getD K gL).all=false)(mS:¬jl (iM (jA (m.getD N []) p K) (ku ((m.getD N []).getD K gL))) p true=0):gJ 200 [gV m,iP p] (.hH [gM ix,bP false]):=by
 have ra:=ga.iH;have n8:=ga.n8;have c8:=ga.k8;exact aj call200 func200 (ae [af [gV m] (wm _ _ _ aE),af [iP p] (BN _),ag 21 (jV (p:Int)) (mm.2 ⟨aD,aD⟩),.s (Sp.iG (SX m p N) 0 N aD (λx hx jf=>by
    have lx:=ga.kS (aD:x<n);have u1:=oi (m.getD x []) (aD:1<=p) aD (m.getD x []).length;have u2:=xA m (aD:1<=p) aD x;by_cases c1:0<jh (jA (m.getD x []) p ((m.getD x []).length)) (jF m p x)
    .exact gX (aa [tT 28 ((x:Int)<m.length) aD,iX (x:Int) (m.length) aD,.s (Sp.iG (uA m p x) 0 ((m.getD x []).length) aD (λk hk oJ=>by
    have gg:=(hg x aD) k aD;have v1:=oi (m.getD x []) (aD:1<=p) aD k;have v2:=ga.mF (aD:x<n) (aD:k<c);have gga:=gg.all;have v3:=pJ v2.kn.1 v2.kn.2;exact gX (aa [tT 34 ((k:Int)<((m.getD x []).length:Int)) aD,iX (k:Int) ((m.getD x []).length) aD,.c (wc ((m.getD x []).getD k gL) aE gga),.c (wG (jA (m.getD x []) p k) (AQ m x k) p aE aE aD aD),ah 53 ((jl (iM (jA (m.getD x []) p k) (ku ((m.getD x []).getD k gL))) p true) != 0) (by rw[gg.qU];rfl),gW ((k:Int)+1) aD]<|.e (ae [.b 9 (.iD rfl:Bx.le (.cells 39 (Cy m x p k)) (.cells 39 (iy (jA (m.getD x []) p (k+1)))))])) aG)
  (λhk=>by
    exact gX (ae [tF 34 (((m.getD x []).length:Int)<((m.getD x []).length:Int)) aD]) aG) aK:iF 9 f200 (uA m p x 0) (.exit 2) ⟨64,true,[(9,.box 9 0),(27,.e (iP x)),(26,.e (iP m.length)),(25,.e (gV m)),(6,.box 6 0),(4,.box 4 0),(1,.e (iP p))],[(9,.cells 39 (iy (qL m x p))),(6,.cells 39 (iy (jF m p x))),(4,.cells 39 aq)]⟩) (ae [.b 9 (.cells (λ_=>rfl) pE:Bx.le (.cells 39 aq) (.cells 39 (iy (jA (m.getD x []) p 0))))]),af [gM (qL m x p),gM (jF m p x)] (nT _ _ aE aE),tB 60 (bk c1),gW ((x:Int)+1) aD]<|.e (ae [.b 6 (.iD (by rw[show jF m p (x+1)=(qL m x p)from bj c1]):Bx.le (.cells 39 (iy (qL m x p))) (.cells 39 (iy (jF m p (x+1)))))])) aG 
    .exact gX (aa [tT 28 ((x:Int)<m.length) aD,iX (x:Int) (m.length) aD,.s (Sp.iG (uA m p x) 0 ((m.getD x []).length) aD (λk hk oJ=>by
    have gg:=(hg x aD) k aD;have v1:=oi (m.getD x []) (aD:1<=p) aD k;have v2:=ga.mF (aD:x<n) (aD:k<c);have gga:=gg.all;have v3:=pJ v2.kn.1 v2.kn.2;exact gX (aa [tT 34 ((k:Int)<((m.getD x []).length:Int)) aD,iX (k:Int) ((m.getD x []).length) aD,.c (wc ((m.getD x []).getD k gL) aE gga),.c (wG (jA (m.getD x []) p k) (AQ m x k) p aE aE aD aD),ah 53 ((jl (iM (jA (m.getD x []) p k) (ku ((m.getD x []).getD k gL))) p true) != 0) (by rw[gg.qU];rfl),gW ((k:Int)+1) aD]<|.e (ae [.b 9 (.iD rfl:Bx.le (.cells 39 (Cy m x p k)) (.cells 39 (iy (jA (m.getD x []) p (k+1)))))])) aG)
  (λhk=>by
    exact gX (ae [tF 34 (((m.getD x []).length:Int)<((m.getD x []).length:Int)) aD]) aG) aK:iF 9 f200 (uA m p x 0) (.exit 2) ⟨64,true,[(9,.box 9 0),(27,.e (iP x)),(26,.e (iP m.length)),(25,.e (gV m)),(6,.box 6 0),(4,.box 4 0),(1,.e (iP p))],[(9,.cells 39 (iy (qL m x p))),(6,.cells 39 (iy (jF m p x))),(4,.cells 39 aq)]⟩) (ae [.b 9 (.cells (λ_=>rfl) pE:Bx.le (.cells 39 aq) (.cells 39 (iy (jA (m.getD x []) p 0))))]),af [gM (qL m x p),gM (jF m p x)] (nT _ _ aE aE),tB 60 (bl c1),gW ((x:Int)+1) aD]<|.e (ae [.b 6 (.iD (by rw[show jF m p (x+1)=(jF m p x)from bh c1]):Bx.le (.cells 39 (iy (jF m p x))) (.cells 39 (iy (jF m p (x+1)))))])) aG)
  (λhx=>by
    have lN:=ga.kS (aD:N<n);exact gX (ae [tT 28 ((N:Int)<m.length) aD,iX (N:Int) (m.length) aD,.s (Sp.iG (SY m p N K) 0 K aD (λk hk oJ=>by
    have gg:=zG k aD;have v1:=oi (m.getD N []) (aD:1<=p) aD k;have v2:=ga.mF (aD:N<n) (aD:k<c);have gga:=gg.all;have v3:=pJ v2.kn.1 v2.kn.2;exact gX (aa [tT 34 ((k:Int)<((m.getD N []).length:Int)) aD,iX (k:Int) ((m.getD N []).length) aD,.c (wc ((m.getD N []).getD k gL) aE gga),.c (wG (jA (m.getD N []) p k) (ku ((m.getD N []).getD k gL)) p aE aE aD aD),ah 53 ((jl (iM (jA (m.getD N []) p k) (ku ((m.getD N []).getD k gL))) p true) != 0) (by rw[gg.qU];rfl),gW ((k:Int)+1) aD]<|.e (ae [.b 9 (.iD rfl:Bx.le (.cells 39 (iy (ji (iM (jA (m.getD N []) p k) (ku ((m.getD N []).getD k gL))) p true))) (.cells 39 (iy (jA (m.getD N []) p (k+1)))))])) aG)
  (λhk=>by
    have v1:=oi (m.getD N []) (aD:1<=p) aD K;have v2:=ga.mF (aD:N<n) (aD:K<c);have v3:=pJ v2.kn.1 v2.kn.2;exact gX (ae [tT 34 ((K:Int)<((m.getD N []).length:Int)) aD,iX (K:Int) ((m.getD N []).length) aD,.c (wc ((m.getD N []).getD K gL) aE nU),.c (wG (jA (m.getD N []) p K) (ku ((m.getD N []).getD K gL)) p aE aE aD aD),ag 53 ((jl (iM (jA (m.getD N []) p K) (ku ((m.getD N []).getD K gL))) p true) != 0) (by simpa using mS),.o 54 (.e qM:ai MG (gM ix))]) aG) aK:iF 9 f200 (SY m p N K 0) .ret ⟨64,true,[(5,.e (bP false)),(4,.box 4 0)],[(4,.cells 39 (iy ix))]⟩) (ae [.b 9 (.cells (λ_=>rfl) pE:Bx.le (.cells 39 aq) (.cells 39 (iy (jA (m.getD N []) p 0))))])]) aG) aK:iF 5 f200 (SX m p N 0) .ret ⟨64,true,[(5,.e (bP false)),(4,.box 4 0)],[(4,.cells 39 (iy ix))]⟩) (ae [.b 6 (.cells (λ_=>rfl) pE:Bx.le (.cells 39 aq) (.cells 39 (iy (jF m p 0))))])]) 
abbrev AS(h)(d:Dy)(p)(k):=ik (ia (ib h) (gZ d) p) (gY ((k+2:Nat):Int)) p
abbrev AT(h)(d:Dy)(p)(k):=jJ (ia (ib h) (gZ d) p) p (k+1)
abbrev It(h)(d:Dy)(p)(x:Nat):=ik (ia (ib h) (gZ d) p) (gY ((x+1:Nat):Int)) p
def Hl(m:List (List Iv))(h:Iv)(d:Dy)(k p:Nat)(x:Nat):PS:=⟨79,true,[(14,.e (iP ((x+1:Nat):Int))),(13,.box 13 0),(12,.box 12 0),(8,.box 8 0),(2,.e (iP k)),(3,.e (iP p))],[(13,.cells 46 (iA (jJ (ia (ib h) (gZ d) p) p x))),(12,.cells 46 (iA (ia (ib h) (gZ d) p))),(8,.cells 46 ar)]⟩
def FI{Q:Nat->Prop}{n:Nat}(h:¬∀ i,i<n->Q i):∃ N,N<n/\¬Q N/\∀ i,i<N->Q i:=by
 induction n with
 |zero=>exact absurd (λi hi=>absurd hi (bC i)) h
 |succ n ih=>
  by_cases hn:∀ i,i<n->Q i
  .refine ⟨n,aD,λq=>h λi hi=>?_,hn⟩;by_cases lZ:i=n
   .rw [lZ];exact q
   .exact hn i aD 
  .obtain ⟨N,h1,h2,h3⟩:=ih hn;exact⟨N,aD,h2,h3⟩
def ad1(m:List (List Iv))(n c p:Nat)(ga:iY m n c)(ie:8<=p)(gS:p<=512)(d:Dy)(hd:vy m p=some d):gJ 200 [gV m,iP (p:Int)] (.hH [gM d,bP true])/\d.gQ:=by
 have hg:∀ x,x<m.length->∀ k,k<(m.getD x []).length->nK (m.getD x []) p k:=by
  intro x hx k hk;apply bY;intro q;rw[Lm hx hk q]at hd;cases hd
 rw[D1 hg]at hd;cases hd;exact⟨ad0 m n c p ga ie gS hg,xA m aD aD _⟩
def adZ(m:List (List Iv))(n c p:Nat)(ga:iY m n c)(ie:8<=p)(gS:p<=512)(hd:vy m p=none):gJ 200 [gV m,iP (p:Int)] (.hH [gM ix,bP false]):=by
 have hb:¬∀ x,x<m.length->∀ k,k<(m.getD x []).length->nK (m.getD x []) p k:=λhg=>by rw[D1 hg]at hd;cases hd
 obtain⟨N,h1,h2,h3⟩:=FI (Q:=λx=>∀ k,k<(m.getD x []).length->nK (m.getD x []) p k) hb;obtain⟨K,k1,k2,k3⟩:=FI h2;by_cases ha:((m.getD N []).getD K gL).all=true
 .exact adW m n c p ga ie gS N K h1 k1 h3 k3 ha
 .exact adX m n c p ga ie gS N K h1 k1 h3 k3 (by simpa using ha) (λq=>k2 ⟨by simpa using ha,q⟩)
def wA(u:Iv){p:Nat}(hp:1<=p)(gS:p<=4096):∀ j,(jJ u p j).gQ
 | 0=>oD 1 aF 
 |j+1=>ml _ _ hp gS
def ML:E.le (.agg ar) (gR ⟨ix,ix,false⟩):=
 .agg (.cons (.refl _) (.cons xz (.cons (.refl _) (.cons (.refl _) (.cons xz (.cons (.refl _) (.cons (.refl _) .nil)))))))
def agL(m:List (List Iv))(h:Iv)(n c k p:Nat)(ga:iY m n c)(hh:h.gQ)(hk:k<=1000)(ie:8<=p)(gS:p<=512)(hd:vy m p=none):gJ 124 [gV m,gR h,iP k,iP p] (.hH [gR ⟨ix,ix,false⟩,bP false]):=
 aj call124 func124 (aa [af [gV m,iP p] (adZ _ _ _ _ ga ie gS hd)]<|rR (.hH [gR ⟨ix,ix,false⟩,bP false]) (.hH (.cons ML (.cons (.refl _) .nil)):E.le (.hH [.agg ar,bP false]) (.hH [gR ⟨ix,ix,false⟩,bP false]))) 
def agM(m:List (List Iv))(h:Iv)(n c k p:Nat)(ga:iY m n c)(hh:h.gQ)(hk:k<=1000)(ie:8<=p)(gS:p<=512)(d:Dy)(hn:gJ 200 [gV m,iP (p:Int)] (.hH [gM d,bP true]))(hd:d.gQ)(hu:(ia (ib h) (gZ d) p).all=true):gJ 124 [gV m,gR h,iP k,iP p] (.hH [gR ⟨ix,ix,false⟩,bP false]):=by
 have va:=qQ hh;have vp:=pO hd;have vu:=ml (ib h) (gZ d) (aD:1<=p) (aD:p<=4096);exact aj call124 func124 (aa [af [gV m,iP p] hn,.c (Dv h aE),.c (xt d aE),.c (rC (ib h) (gZ d) p aE aE aD aD),ag 32 ((ia (ib h) (gZ d) p).all) hu]<|rR (.hH [gR ⟨ix,ix,false⟩,bP false]) (.hH (.cons ML (.cons (.refl _) .nil)):E.le (.hH [.agg ar,bP false]) (.hH [gR ⟨ix,ix,false⟩,bP false]))) 
def agN(m:List (List Iv))(h:Iv)(n c k p:Nat)(ga:iY m n c)(hh:h.gQ)(hk:k<=1000)(ie:8<=p)(gS:p<=512)(d:Dy)(hn:gJ 200 [gV m,iP (p:Int)] (.hH [gM d,bP true]))(hd:d.gQ)(hu:(ia (ib h) (gZ d) p).all=false)(hc:0<=jh (ia (ib h) (gZ d) p).hi (jI ((k+2:Nat):Int))):gJ 124 [gV m,gR h,iP k,iP p] (.hH [gR ⟨ix,ix,false⟩,bP false]):=by
 have va:=qQ hh;have vp:=pO hd;have vu:=ml (ib h) (gZ d) (aD:1<=p) (aD:p<=4096);have vk:=ux (k+2) aD;have ve:=vu.kn.2;exact aj call124 func124 (aa [af [gV m,iP p] hn,.c (Dv h aE),.c (xt d aE),.c (rC (ib h) (gZ d) p aE aE aD aD),ah 32 ((ia (ib h) (gZ d) p).all) hu,gW ((k:Int)+2) aD,.c (A8 (k+2) aD),af [gM ((ia (ib h) (gZ d) p).hi),gM (jI ((k+2:Nat):Int))] (nT _ _ aE aE),tB 40 (bk hc)]<|rR (.hH [gR ⟨ix,ix,false⟩,bP false]) (.hH (.cons ML (.cons (.refl _) .nil)):E.le (.hH [.agg ar,bP false]) (.hH [gR ⟨ix,ix,false⟩,bP false]))) 
def agO(m:List (List Iv))(h:Iv)(n c k p:Nat)(ga:iY m n c)(hh:h.gQ)(hk:k<=1000)(ie:8<=p)(gS:p<=512)(d:Dy)(hn:gJ 200 [gV m,iP (p:Int)] (.hH [gM d,bP true]))(hd:d.gQ)(hu:(ia (ib h) (gZ d) p).all=false)(hc:¬0<=jh (ia (ib h) (gZ d) p).hi (jI ((k+2:Nat):Int)))(he:(ik (jJ (ia (ib h) (gZ d) p) p (k+1)) (je (gY 1) (ik (ia (ib h) (gZ d) p) (gY ((k+2:Nat):Int)) p) p) p).all=true):gJ 124 [gV m,gR h,iP k,iP p] (.hH [gR (ik (jJ (ia (ib h) (gZ d) p) p (k+1)) (je (gY 1) (ik (ia (ib h) (gZ d) p) (gY ((k+2:Nat):Int)) p) p) p),bP false]):=by
 have va:=qQ hh;have vp:=pO hd;have vu:=ml (ib h) (gZ d) (aD:1<=p) (aD:p<=4096);have vk:=ux (k+2) aD;have ve:=vu.kn.2;have w1:=wA (ia (ib h) (gZ d) p) (aD:1<=p) aD (k+1);have w2:=oD (k+2) aD;have w3:(gY 1).gQ:=oD 1 aF;have w4:=lT (ia (ib h) (gZ d) p) (gY ((k+2:Nat):Int)) (aD:1<=p) aD;have w5:(je (gY 1) (ik (ia (ib h) (gZ d) p) (gY ((k+2:Nat):Int)) p) p).gQ:=pU w3 (rZ w4) aD aD;have w6:=lT (jJ (ia (ib h) (gZ d) p) p (k+1)) (je (gY 1) (ik (ia (ib h) (gZ d) p) (gY ((k+2:Nat):Int)) p) p) (aD:1<=p) aD;have w7:=w6.kn.2;exact aj call124 func124 (ae [af [gV m,iP p] hn,.c (Dv h aE),.c (xt d aE),.c (rC (ib h) (gZ d) p aE aE aD aD),ah 32 ((ia (ib h) (gZ d) p).all) hu,gW ((k:Int)+2) aD,.c (A8 (k+2) aD),af [gM ((ia (ib h) (gZ d) p).hi),gM (jI ((k+2:Nat):Int))] (nT _ _ aE aE),tB 40 (bl hc),.c (wu 1 aD),.s (Sp.iG (Hl m h d k p) 0 (k+1) aD (λx hx jf=>by
    have w1:=wA (ia (ib h) (gZ d) p) (aD:1<=p) aD x;have w2:=oD (x+1) aD;have w3:=lT (ia (ib h) (gZ d) p) (gY ((x+1:Nat):Int)) (aD:1<=p) aD;exact gX (aa [gW ((k:Int)+1) aD,tT 47 (((x+1:Nat):Int)<=((k+1:Nat):Int)) aD,.c (wu (x+1) aD),.c (wb (ia (ib h) (gZ d) p) (gY ((x+1:Nat):Int)) p aE aE aD aD),.c (rC (jJ (ia (ib h) (gZ d) p) p x) (It h d p x) p aE aE aD aD),gW (((x+1:Nat):Int)+1) aD]<|.e (ae [.b 13 (.iD rfl:Bx.le (.cells 46 (iA (ia (jJ (ia (ib h) (gZ d) p) p x) (It h d p x) p))) (.cells 46 (iA (jJ (ia (ib h) (gZ d) p) p (x+1)))))])) aG)
  (λhx=>by
    exact gX (ae [gW ((k:Int)+1) aD,tF 47 ((((k+1)+1:Nat):Int)<=((k+1:Nat):Int)) aD]) aG) aK:iF 9 f124 (Hl m h d k p 0) (.exit 0) ⟨79,true,[(13,.box 13 0),(12,.box 12 0),(8,.box 8 0),(2,.e (iP k)),(3,.e (iP p))],[(13,.cells 46 (iA (AT h d p k))),(12,.cells 46 (iA (ia (ib h) (gZ d) p))),(8,.cells 46 ar)]⟩) (ae [.o 14 (an 1 ((0+1:Nat):Int) aS),.b 13 (.iD rfl:Bx.le (.cells 46 (iA (gY 1))) (.cells 46 (iA (jJ (ia (ib h) (gZ d) p) p 0))))]),.c (wu 1 aD),gW ((k:Int)+2) aD,.c (wu (k+2) aD),.c (wb (ia (ib h) (gZ d) p) (gY ((k+2:Nat):Int)) p aE aE aD aD),.c (Dw (gY 1) (AS h d p k) p aE aE aD aD),.c (wb (AT h d p k) (je (gY 1) (AS h d p k) p) p aE aE aD aD),ag 71 ((ik (AT h d p k) (je (gY 1) (AS h d p k) p) p).all) he]) 
def agP(m:List (List Iv))(h:Iv)(n c k p:Nat)(ga:iY m n c)(hh:h.gQ)(hk:k<=1000)(ie:8<=p)(gS:p<=512)(d:Dy)(hn:gJ 200 [gV m,iP (p:Int)] (.hH [gM d,bP true]))(hd:d.gQ)(hu:(ia (ib h) (gZ d) p).all=false)(hc:¬0<=jh (ia (ib h) (gZ d) p).hi (jI ((k+2:Nat):Int)))(he:(ik (jJ (ia (ib h) (gZ d) p) p (k+1)) (je (gY 1) (ik (ia (ib h) (gZ d) p) (gY ((k+2:Nat):Int)) p) p) p).all=false):gJ 124 [gV m,gR h,iP k,iP p] (.hH [gR ⟨iB (ik (jJ (ia (ib h) (gZ d) p) p (k+1)) (je (gY 1) (ik (ia (ib h) (gZ d) p) (gY ((k+2:Nat):Int)) p) p) p).hi,(ik (jJ (ia (ib h) (gZ d) p) p (k+1)) (je (gY 1) (ik (ia (ib h) (gZ d) p) (gY ((k+2:Nat):Int)) p) p) p).hi,false⟩,bP true]):=by
 have va:=qQ hh;have vp:=pO hd;have vu:=ml (ib h) (gZ d) (aD:1<=p) (aD:p<=4096);have vk:=ux (k+2) aD;have ve:=vu.kn.2;have w1:=wA (ia (ib h) (gZ d) p) (aD:1<=p) aD (k+1);have w2:=oD (k+2) aD;have w3:(gY 1).gQ:=oD 1 aF;have w4:=lT (ia (ib h) (gZ d) p) (gY ((k+2:Nat):Int)) (aD:1<=p) aD;have w5:(je (gY 1) (ik (ia (ib h) (gZ d) p) (gY ((k+2:Nat):Int)) p) p).gQ:=pU w3 (rZ w4) aD aD;have w6:=lT (jJ (ia (ib h) (gZ d) p) p (k+1)) (je (gY 1) (ik (ia (ib h) (gZ d) p) (gY ((k+2:Nat):Int)) p) p) (aD:1<=p) aD;have w7:=w6.kn.2;exact aj call124 func124 (ae [af [gV m,iP p] hn,.c (Dv h aE),.c (xt d aE),.c (rC (ib h) (gZ d) p aE aE aD aD),ah 32 ((ia (ib h) (gZ d) p).all) hu,gW ((k:Int)+2) aD,.c (A8 (k+2) aD),af [gM ((ia (ib h) (gZ d) p).hi),gM (jI ((k+2:Nat):Int))] (nT _ _ aE aE),tB 40 (bl hc),.c (wu 1 aD),.s (Sp.iG (Hl m h d k p) 0 (k+1) aD (λx hx jf=>by
    have w1:=wA (ia (ib h) (gZ d) p) (aD:1<=p) aD x;have w2:=oD (x+1) aD;have w3:=lT (ia (ib h) (gZ d) p) (gY ((x+1:Nat):Int)) (aD:1<=p) aD;exact gX (aa [gW ((k:Int)+1) aD,tT 47 (((x+1:Nat):Int)<=((k+1:Nat):Int)) aD,.c (wu (x+1) aD),.c (wb (ia (ib h) (gZ d) p) (gY ((x+1:Nat):Int)) p aE aE aD aD),.c (rC (jJ (ia (ib h) (gZ d) p) p x) (It h d p x) p aE aE aD aD),gW (((x+1:Nat):Int)+1) aD]<|.e (ae [.b 13 (.iD rfl:Bx.le (.cells 46 (iA (ia (jJ (ia (ib h) (gZ d) p) p x) (It h d p x) p))) (.cells 46 (iA (jJ (ia (ib h) (gZ d) p) p (x+1)))))])) aG)
  (λhx=>by
    exact gX (ae [gW ((k:Int)+1) aD,tF 47 ((((k+1)+1:Nat):Int)<=((k+1:Nat):Int)) aD]) aG) aK:iF 9 f124 (Hl m h d k p 0) (.exit 0) ⟨79,true,[(13,.box 13 0),(12,.box 12 0),(8,.box 8 0),(2,.e (iP k)),(3,.e (iP p))],[(13,.cells 46 (iA (AT h d p k))),(12,.cells 46 (iA (ia (ib h) (gZ d) p))),(8,.cells 46 ar)]⟩) (ae [.o 14 (an 1 ((0+1:Nat):Int) aS),.b 13 (.iD rfl:Bx.le (.cells 46 (iA (gY 1))) (.cells 46 (iA (jJ (ia (ib h) (gZ d) p) p 0))))]),.c (wu 1 aD),gW ((k:Int)+2) aD,.c (wu (k+2) aD),.c (wb (ia (ib h) (gZ d) p) (gY ((k+2:Nat):Int)) p aE aE aD aD),.c (Dw (gY 1) (AS h d p k) p aE aE aD aD),.c (wb (AT h d p k) (je (gY 1) (AS h d p k) p) p aE aE aD aD),ah 71 ((ik (AT h d p k) (je (gY 1) (AS h d p k) p) p).all) he,af [gM ((ik (AT h d p k) (je (gY 1) (AS h d p k) p) p).hi)] (yb _ aE)]) 
abbrev qG(m:List (List Iv))(x)(p):=jA (m.getD x []) p ((m.getD x []).length)
abbrev Au(m:List (List Iv))(x)(k):=ku ((m.getD x []).getD k gL)
abbrev BZ(m:List (List Iv))(x)(p)(k):=iy (ji (iM (jA (m.getD x []) p k) (Au m x k)) p true)
def Uq(m:List (List Iv))(p:Nat)(x:Nat):PS:=⟨67,true,[(7,.e (iP x)),(6,.box 6 0),(4,.box 4 0),(0,.e (gV m)),(1,.e (iP p))],[(6,.cells 39 (iy (jF m p x))),(4,.cells 39 aq)]⟩
def uH(m:List (List Iv))(p x:Nat)(k:Nat):PS:=⟨67,true,[(9,.e (iP k)),(8,.box 8 0),(7,.e (iP x)),(6,.box 6 0),(4,.box 4 0),(0,.e (gV m)),(1,.e (iP p))],[(8,.cells 39 (iy (jA (m.getD x []) p k))),(6,.cells 39 (iy (jF m p x))),(4,.cells 39 aq)]⟩
def Ul(m:List (List Iv))(p N:Nat)(x:Nat):PS:=⟨67,true,[(7,.e (iP x)),(6,.box 6 0),(4,.box 4 0),(0,.e (gV m)),(1,.e (iP p))],[(6,.cells 39 (iy (jF m p x))),(4,.cells 39 aq)]⟩
def Um(m:List (List Iv))(p N K:Nat)(k:Nat):PS:=⟨67,true,[(9,.e (iP k)),(8,.box 8 0),(7,.e (iP N)),(6,.box 6 0),(4,.box 4 0),(0,.e (gV m)),(1,.e (iP p))],[(8,.cells 39 (iy (jA (m.getD N []) p k))),(6,.cells 39 (iy (jF m p N))),(4,.cells 39 aq)]⟩
def Un(m:List (List Iv))(p N:Nat)(x:Nat):PS:=⟨67,true,[(7,.e (iP x)),(6,.box 6 0),(4,.box 4 0),(0,.e (gV m)),(1,.e (iP p))],[(6,.cells 39 (iy (jF m p x))),(4,.cells 39 aq)]⟩
def Uo(m:List (List Iv))(p N K:Nat)(k:Nat):PS:=⟨67,true,[(9,.e (iP k)),(8,.box 8 0),(7,.e (iP N)),(6,.box 6 0),(4,.box 4 0),(0,.e (gV m)),(1,.e (iP p))],[(8,.cells 39 (iy (jA (m.getD N []) p k))),(6,.cells 39 (iy (jF m p N))),(4,.cells 39 aq)]⟩
def afJ(m:List (List Iv))(n c p:Nat)(ga:iY m n c)(ie:8<=p)(gS:p<=512)(hg:∀ x,x<m.length->∀ k,k<(m.getD x []).length->nK (m.getD x []) p k):gJ 143 [gV m,iP p] (.hH [gM (jF m p m.length),bP true]):=by
 have ra:=ga.iH;have n8:=ga.n8;have c8:=ga.k8;exact aj call143 func143 (ae [af [gV m] (AF _ _ _ aE),af [iP p] (rI _),ag 16 (jV (p:Int)) (mm.2 ⟨aD,aD⟩),.s (Sp.iG (Uq m p) 0 m.length aD (λx hx jf=>by
    have lx:=ga.kS (aD:x<n);have u1:=oi (m.getD x []) (aD:1<=p) aD (m.getD x []).length;have u2:=xA m (aD:1<=p) aD x;by_cases c1:0<jh (jA (m.getD x []) p ((m.getD x []).length)) (jF m p x)
    .exact gX (aa [tT 23 ((x:Int)<m.length) aD,.s (Sp.iG (uH m p x) 0 ((m.getD x []).length) aD (λk hk oJ=>by
    have gg:=(hg x aD) k aD;have v1:=oi (m.getD x []) (aD:1<=p) aD k;have v2:=ga.mF (aD:x<n) (aD:k<c);have gga:=gg.all;have v3:=pJ v2.kn.1 v2.kn.2;exact gX (aa [iX (x:Int) (m.length) aD,tT 32 ((k:Int)<((m.getD x []).length:Int)) aD,iX (x:Int) (m.length) aD,iX (k:Int) ((m.getD x []).length) aD,ah 42 (((m.getD x []).getD k gL).all) gg.all,iX (x:Int) (m.length) aD,iX (k:Int) ((m.getD x []).length) aD,.c (wE ((m.getD x []).getD k gL) aE gga),.c (vz (jA (m.getD x []) p k) (Au m x k) p true aE aE aD aD),ah 59 ((jl (iM (jA (m.getD x []) p k) (ku ((m.getD x []).getD k gL))) p true) != 0) (by rw[gg.qU];rfl),gW ((k:Int)+1) aD]<|.e (ae [.b 8 (.iD rfl:Bx.le (.cells 39 (BZ m x p k)) (.cells 39 (iy (jA (m.getD x []) p (k+1)))))])) aG)
  (λhk=>by
    exact gX (ae [iX (x:Int) (m.length) aD,tF 32 (((m.getD x []).length:Int)<((m.getD x []).length:Int)) aD]) aG) aK:iF 9 f143 (uH m p x 0) (.exit 2) ⟨67,true,[(8,.box 8 0),(7,.e (iP x)),(6,.box 6 0),(4,.box 4 0),(0,.e (gV m)),(1,.e (iP p))],[(8,.cells 39 (iy (qG m x p))),(6,.cells 39 (iy (jF m p x))),(4,.cells 39 aq)]⟩) (ae [.b 8 (.cells (λ_=>rfl) pE:Bx.le (.cells 39 aq) (.cells 39 (iy (jA (m.getD x []) p 0))))]),.c (r9 (qG m x p) (jF m p x) (Fp.Dy.gQ.ng aE) (Fp.Dy.gQ.ng aE)),tB 64 (bk c1),gW ((x:Int)+1) aD]<|.e (ae [.b 6 (.iD (by rw[show jF m p (x+1)=(qG m x p)from bj c1]):Bx.le (.cells 39 (iy (qG m x p))) (.cells 39 (iy (jF m p (x+1)))))])) aG 
    .exact gX (aa [tT 23 ((x:Int)<m.length) aD,.s (Sp.iG (uH m p x) 0 ((m.getD x []).length) aD (λk hk oJ=>by
    have gg:=(hg x aD) k aD;have v1:=oi (m.getD x []) (aD:1<=p) aD k;have v2:=ga.mF (aD:x<n) (aD:k<c);have gga:=gg.all;have v3:=pJ v2.kn.1 v2.kn.2;exact gX (aa [iX (x:Int) (m.length) aD,tT 32 ((k:Int)<((m.getD x []).length:Int)) aD,iX (x:Int) (m.length) aD,iX (k:Int) ((m.getD x []).length) aD,ah 42 (((m.getD x []).getD k gL).all) gg.all,iX (x:Int) (m.length) aD,iX (k:Int) ((m.getD x []).length) aD,.c (wE ((m.getD x []).getD k gL) aE gga),.c (vz (jA (m.getD x []) p k) (Au m x k) p true aE aE aD aD),ah 59 ((jl (iM (jA (m.getD x []) p k) (ku ((m.getD x []).getD k gL))) p true) != 0) (by rw[gg.qU];rfl),gW ((k:Int)+1) aD]<|.e (ae [.b 8 (.iD rfl:Bx.le (.cells 39 (BZ m x p k)) (.cells 39 (iy (jA (m.getD x []) p (k+1)))))])) aG)
  (λhk=>by
    exact gX (ae [iX (x:Int) (m.length) aD,tF 32 (((m.getD x []).length:Int)<((m.getD x []).length:Int)) aD]) aG) aK:iF 9 f143 (uH m p x 0) (.exit 2) ⟨67,true,[(8,.box 8 0),(7,.e (iP x)),(6,.box 6 0),(4,.box 4 0),(0,.e (gV m)),(1,.e (iP p))],[(8,.cells 39 (iy (qG m x p))),(6,.cells 39 (iy (jF m p x))),(4,.cells 39 aq)]⟩) (ae [.b 8 (.cells (λ_=>rfl) pE:Bx.le (.cells 39 aq) (.cells 39 (iy (jA (m.getD x []) p 0))))]),.c (r9 (qG m x p) (jF m p x) (Fp.Dy.gQ.ng aE) (Fp.Dy.gQ.ng aE)),tB 64 (bl c1),gW ((x:Int)+1) aD]<|.e (ae [.b 6 (.iD (by rw[show jF m p (x+1)=(jF m p x)from bh c1]):Bx.le (.cells 39 (iy (jF m p x))) (.cells 39 (iy (jF m p (x+1)))))])) aG)
  (λhx=>by
    exact gX (ae [tF 23 ((m.length:Int)<m.length) aD]) aG) aK:iF 5 f143 (Uq m p 0) (.exit 0) ⟨67,true,[(6,.box 6 0),(4,.box 4 0)],[(6,.cells 39 (iy (jF m p m.length))),(4,.cells 39 aq)]⟩) (ae [.b 6 (.cells (λ_=>rfl) pE:Bx.le (.cells 39 aq) (.cells 39 (iy (jF m p 0))))])]) 
def afG(m:List (List Iv))(n c p:Nat)(ga:iY m n c)(ie:8<=p)(gS:p<=512)(N K:Nat)(hN:N<m.length)(hK:K<(m.getD N []).length)(hg:∀ x,x<N->∀ k,k<(m.getD x []).length->nK (m.getD x []) p k)(zG:∀ k,k<K->nK (m.getD N []) p k)(mS:((m.getD N []).getD K gL).all=true):gJ 143 [gV m,iP p] (.hH [gM ix,bP false]):=by
 have ra:=ga.iH;have n8:=ga.n8;have c8:=ga.k8;exact aj call143 func143 (ae [af [gV m] (AF _ _ _ aE),af [iP p] (rI _),ag 16 (jV (p:Int)) (mm.2 ⟨aD,aD⟩),.s (Sp.iG (Ul m p N) 0 N aD (λx hx jf=>by
    have lx:=ga.kS (aD:x<n);have u1:=oi (m.getD x []) (aD:1<=p) aD (m.getD x []).length;have u2:=xA m (aD:1<=p) aD x;by_cases c1:0<jh (jA (m.getD x []) p ((m.getD x []).length)) (jF m p x)
    .exact gX (aa [tT 23 ((x:Int)<m.length) aD,.s (Sp.iG (uH m p x) 0 ((m.getD x []).length) aD (λk hk oJ=>by
    have gg:=(hg x aD) k aD;have v1:=oi (m.getD x []) (aD:1<=p) aD k;have v2:=ga.mF (aD:x<n) (aD:k<c);have gga:=gg.all;have v3:=pJ v2.kn.1 v2.kn.2;exact gX (aa [iX (x:Int) (m.length) aD,tT 32 ((k:Int)<((m.getD x []).length:Int)) aD,iX (x:Int) (m.length) aD,iX (k:Int) ((m.getD x []).length) aD,ah 42 (((m.getD x []).getD k gL).all) gg.all,iX (x:Int) (m.length) aD,iX (k:Int) ((m.getD x []).length) aD,.c (wE ((m.getD x []).getD k gL) aE gga),.c (vz (jA (m.getD x []) p k) (Au m x k) p true aE aE aD aD),ah 59 ((jl (iM (jA (m.getD x []) p k) (ku ((m.getD x []).getD k gL))) p true) != 0) (by rw[gg.qU];rfl),gW ((k:Int)+1) aD]<|.e (ae [.b 8 (.iD rfl:Bx.le (.cells 39 (BZ m x p k)) (.cells 39 (iy (jA (m.getD x []) p (k+1)))))])) aG)
  (λhk=>by
    exact gX (ae [iX (x:Int) (m.length) aD,tF 32 (((m.getD x []).length:Int)<((m.getD x []).length:Int)) aD]) aG) aK:iF 9 f143 (uH m p x 0) (.exit 2) ⟨67,true,[(8,.box 8 0),(7,.e (iP x)),(6,.box 6 0),(4,.box 4 0),(0,.e (gV m)),(1,.e (iP p))],[(8,.cells 39 (iy (qG m x p))),(6,.cells 39 (iy (jF m p x))),(4,.cells 39 aq)]⟩) (ae [.b 8 (.cells (λ_=>rfl) pE:Bx.le (.cells 39 aq) (.cells 39 (iy (jA (m.getD x []) p 0))))]),.c (r9 (qG m x p) (jF m p x) (Fp.Dy.gQ.ng aE) (Fp.Dy.gQ.ng aE)),tB 64 (bk c1),gW ((x:Int)+1) aD]<|.e (ae [.b 6 (.iD (by rw[show jF m p (x+1)=(qG m x p)from bj c1]):Bx.le (.cells 39 (iy (qG m x p))) (.cells 39 (iy (jF m p (x+1)))))])) aG 
    .exact gX (aa [tT 23 ((x:Int)<m.length) aD,.s (Sp.iG (uH m p x) 0 ((m.getD x []).length) aD (λk hk oJ=>by
    have gg:=(hg x aD) k aD;have v1:=oi (m.getD x []) (aD:1<=p) aD k;have v2:=ga.mF (aD:x<n) (aD:k<c);have gga:=gg.all;have v3:=pJ v2.kn.1 v2.kn.2;exact gX (aa [iX (x:Int) (m.length) aD,tT 32 ((k:Int)<((m.getD x []).length:Int)) aD,iX (x:Int) (m.length) aD,iX (k:Int) ((m.getD x []).length) aD,ah 42 (((m.getD x []).getD k gL).all) gg.all,iX (x:Int) (m.length) aD,iX (k:Int) ((m.getD x []).length) aD,.c (wE ((m.getD x []).getD k gL) aE gga),.c (vz (jA (m.getD x []) p k) (Au m x k) p true aE aE aD aD),ah 59 ((jl (iM (jA (m.getD x []) p k) (ku ((m.getD x []).getD k gL))) p true) != 0) (by rw[gg.qU];rfl),gW ((k:Int)+1) aD]<|.e (ae [.b 8 (.iD rfl:Bx.le (.cells 39 (BZ m x p k)) (.cells 39 (iy (jA (m.getD x []) p (k+1)))))])) aG)
  (λhk=>by
    exact gX (ae [iX (x:Int) (m.length) aD,tF 32 (((m.getD x []).length:Int)<((m.getD x []).length:Int)) aD]) aG) aK:iF 9 f143 (uH m p x 0) (.exit 2) ⟨67,true,[(8,.box 8 0),(7,.e (iP x)),(6,.box 6 0),(4,.box 4 0),(0,.e (gV m)),(1,.e (iP p))],[(8,.cells 39 (iy (qG m x p))),(6,.cells 39 (iy (jF m p x))),(4,.cells 39 aq)]⟩) (ae [.b 8 (.cells (λ_=>rfl) pE:Bx.le (.cells 39 aq) (.cells 39 (iy (jA (m.getD x []) p 0))))]),.c (r9 (qG m x p) (jF m p x) (Fp.Dy.gQ.ng aE) (Fp.Dy.gQ.ng aE)),tB 64 (bl c1),gW ((x:Int)+1) aD]<|.e (ae [.b 6 (.iD (by rw[show jF m p (x+1)=(jF m p x)from bh c1]):Bx.le (.cells 39 (iy (jF m p x))) (.cells 39 (iy (jF m p (x+1)))))])) aG)
  (λhx=>by
    have lN:=ga.kS (aD:N<n);exact gX (ae [tT 23 ((N:Int)<m.length) aD,.s (Sp.iG (Um m p N K) 0 K aD (λk hk oJ=>by
    have gg:=zG k aD;have v1:=oi (m.getD N []) (aD:1<=p) aD k;have v2:=ga.mF (aD:N<n) (aD:k<c);have gga:=gg.all;have v3:=pJ v2.kn.1 v2.kn.2;exact gX (aa [iX (N:Int) (m.length) aD,tT 32 ((k:Int)<((m.getD N []).length:Int)) aD,iX (N:Int) (m.length) aD,iX (k:Int) ((m.getD N []).length) aD,ah 42 (((m.getD N []).getD k gL).all) gg.all,iX (N:Int) (m.length) aD,iX (k:Int) ((m.getD N []).length) aD,.c (wE ((m.getD N []).getD k gL) aE gga),.c (vz (jA (m.getD N []) p k) (ku ((m.getD N []).getD k gL)) p true aE aE aD aD),ah 59 ((jl (iM (jA (m.getD N []) p k) (ku ((m.getD N []).getD k gL))) p true) != 0) (by rw[gg.qU];rfl),gW ((k:Int)+1) aD]<|.e (ae [.b 8 (.iD rfl:Bx.le (.cells 39 (iy (ji (iM (jA (m.getD N []) p k) (ku ((m.getD N []).getD k gL))) p true))) (.cells 39 (iy (jA (m.getD N []) p (k+1)))))])) aG)
  (λhk=>by
    have v1:=oi (m.getD N []) (aD:1<=p) aD K;have v2:=ga.mF (aD:N<n) (aD:K<c);have v3:=pJ v2.kn.1 v2.kn.2;exact gX (ae [iX (N:Int) (m.length) aD,tT 32 ((K:Int)<((m.getD N []).length:Int)) aD,iX (N:Int) (m.length) aD,iX (K:Int) ((m.getD N []).length) aD,ag 42 (((m.getD N []).getD K gL).all) mS,.o 43 (.e qM:ai (.agg aq) (gM ix))]) aG) aK:iF 9 f143 (Um m p N K 0) .ret ⟨67,true,[(5,.e (bP false)),(4,.box 4 0)],[(4,.cells 39 (iy ix))]⟩) (ae [.b 8 (.cells (λ_=>rfl) pE:Bx.le (.cells 39 aq) (.cells 39 (iy (jA (m.getD N []) p 0))))])]) aG) aK:iF 5 f143 (Ul m p N 0) .ret ⟨67,true,[(5,.e (bP false)),(4,.box 4 0)],[(4,.cells 39 (iy ix))]⟩) (ae [.b 6 (.cells (λ_=>rfl) pE:Bx.le (.cells 39 aq) (.cells 39 (iy (jF m p 0))))])]) 
def afH(m:List (List Iv))(n c p:Nat)(ga:iY m n c)(ie:8<=p)(gS:p<=512)(N K:Nat)(hN:N<m.length)(hK:K<(m.getD N []).length)(hg:∀ x,x<N->∀ k,k<(m.getD x []).length->nK (m.getD x []) p k)(zG:∀ k,k<K->nK (m.getD N []) p k)(nU:((m.getD N []).getD K gL).all=false)(mS:¬jl (iM (jA (m.getD N []) p K) (ku ((m.getD N []).getD K gL))) p true=0):gJ 143 [gV m,iP p] (.hH [gM ix,bP false]):=by
 have ra:=ga.iH;have n8:=ga.n8;have c8:=ga.k8;exact aj call143 func143 (ae [af [gV m] (AF _ _ _ aE),af [iP p] (rI _),ag 16 (jV (p:Int)) (mm.2 ⟨aD,aD⟩),.s (Sp.iG (Un m p N) 0 N aD (λx hx jf=>by
    have lx:=ga.kS (aD:x<n);have u1:=oi (m.getD x []) (aD:1<=p) aD (m.getD x []).length;have u2:=xA m (aD:1<=p) aD x;by_cases c1:0<jh (jA (m.getD x []) p ((m.getD x []).length)) (jF m p x)
    .exact gX (aa [tT 23 ((x:Int)<m.length) aD,.s (Sp.iG (uH m p x) 0 ((m.getD x []).length) aD (λk hk oJ=>by
    have gg:=(hg x aD) k aD;have v1:=oi (m.getD x []) (aD:1<=p) aD k;have v2:=ga.mF (aD:x<n) (aD:k<c);have gga:=gg.all;have v3:=pJ v2.kn.1 v2.kn.2;exact gX (aa [iX (x:Int) (m.length) aD,tT 32 ((k:Int)<((m.getD x []).length:Int)) aD,iX (x:Int) (m.length) aD,iX (k:Int) ((m.getD x []).length) aD,ah 42 (((m.getD x []).getD k gL).all) gg.all,iX (x:Int) (m.length) aD,iX (k:Int) ((m.getD x []).length) aD,.c (wE ((m.getD x []).getD k gL) aE gga),.c (vz (jA (m.getD x []) p k) (Au m x k) p true aE aE aD aD),ah 59 ((jl (iM (jA (m.getD x []) p k) (ku ((m.getD x []).getD k gL))) p true) != 0) (by rw[gg.qU];rfl),gW ((k:Int)+1) aD]<|.e (ae [.b 8 (.iD rfl:Bx.le (.cells 39 (BZ m x p k)) (.cells 39 (iy (jA (m.getD x []) p (k+1)))))])) aG)
  (λhk=>by
    exact gX (ae [iX (x:Int) (m.length) aD,tF 32 (((m.getD x []).length:Int)<((m.getD x []).length:Int)) aD]) aG) aK:iF 9 f143 (uH m p x 0) (.exit 2) ⟨67,true,[(8,.box 8 0),(7,.e (iP x)),(6,.box 6 0),(4,.box 4 0),(0,.e (gV m)),(1,.e (iP p))],[(8,.cells 39 (iy (qG m x p))),(6,.cells 39 (iy (jF m p x))),(4,.cells 39 aq)]⟩) (ae [.b 8 (.cells (λ_=>rfl) pE:Bx.le (.cells 39 aq) (.cells 39 (iy (jA (m.getD x []) p 0))))]),.c (r9 (qG m x p) (jF m p x) (Fp.Dy.gQ.ng aE) (Fp.Dy.gQ.ng aE)),tB 64 (bk c1),gW ((x:Int)+1) aD]<|.e (ae [.b 6 (.iD (by rw[show jF m p (x+1)=(qG m x p)from bj c1]):Bx.le (.cells 39 (iy (qG m x p))) (.cells 39 (iy (jF m p (x+1)))))])) aG 
    .exact gX (aa [tT 23 ((x:Int)<m.length) aD,.s (Sp.iG (uH m p x) 0 ((m.getD x []).length) aD (λk hk oJ=>by
    have gg:=(hg x aD) k aD;have v1:=oi (m.getD x []) (aD:1<=p) aD k;have v2:=ga.mF (aD:x<n) (aD:k<c);have gga:=gg.all;have v3:=pJ v2.kn.1 v2.kn.2;exact gX (aa [iX (x:Int) (m.length) aD,tT 32 ((k:Int)<((m.getD x []).length:Int)) aD,iX (x:Int) (m.length) aD,iX (k:Int) ((m.getD x []).length) aD,ah 42 (((m.getD x []).getD k gL).all) gg.all,iX (x:Int) (m.length) aD,iX (k:Int) ((m.getD x []).length) aD,.c (wE ((m.getD x []).getD k gL) aE gga),.c (vz (jA (m.getD x []) p k) (Au m x k) p true aE aE aD aD),ah 59 ((jl (iM (jA (m.getD x []) p k) (ku ((m.getD x []).getD k gL))) p true) != 0) (by rw[gg.qU];rfl),gW ((k:Int)+1) aD]<|.e (ae [.b 8 (.iD rfl:Bx.le (.cells 39 (BZ m x p k)) (.cells 39 (iy (jA (m.getD x []) p (k+1)))))])) aG)
  (λhk=>by
    exact gX (ae [iX (x:Int) (m.length) aD,tF 32 (((m.getD x []).length:Int)<((m.getD x []).length:Int)) aD]) aG) aK:iF 9 f143 (uH m p x 0) (.exit 2) ⟨67,true,[(8,.box 8 0),(7,.e (iP x)),(6,.box 6 0),(4,.box 4 0),(0,.e (gV m)),(1,.e (iP p))],[(8,.cells 39 (iy (qG m x p))),(6,.cells 39 (iy (jF m p x))),(4,.cells 39 aq)]⟩) (ae [.b 8 (.cells (λ_=>rfl) pE:Bx.le (.cells 39 aq) (.cells 39 (iy (jA (m.getD x []) p 0))))]),.c (r9 (qG m x p) (jF m p x) (Fp.Dy.gQ.ng aE) (Fp.Dy.gQ.ng aE)),tB 64 (bl c1),gW ((x:Int)+1) aD]<|.e (ae [.b 6 (.iD (by rw[show jF m p (x+1)=(jF m p x)from bh c1]):Bx.le (.cells 39 (iy (jF m p x))) (.cells 39 (iy (jF m p (x+1)))))])) aG)
  (λhx=>by
    have lN:=ga.kS (aD:N<n);exact gX (ae [tT 23 ((N:Int)<m.length) aD,.s (Sp.iG (Uo m p N K) 0 K aD (λk hk oJ=>by
    have gg:=zG k aD;have v1:=oi (m.getD N []) (aD:1<=p) aD k;have v2:=ga.mF (aD:N<n) (aD:k<c);have gga:=gg.all;have v3:=pJ v2.kn.1 v2.kn.2;exact gX (aa [iX (N:Int) (m.length) aD,tT 32 ((k:Int)<((m.getD N []).length:Int)) aD,iX (N:Int) (m.length) aD,iX (k:Int) ((m.getD N []).length) aD,ah 42 (((m.getD N []).getD k gL).all) gg.all,iX (N:Int) (m.length) aD,iX (k:Int) ((m.getD N []).length) aD,.c (wE ((m.getD N []).getD k gL) aE gga),.c (vz (jA (m.getD N []) p k) (ku ((m.getD N []).getD k gL)) p true aE aE aD aD),ah 59 ((jl (iM (jA (m.getD N []) p k) (ku ((m.getD N []).getD k gL))) p true) != 0) (by rw[gg.qU];rfl),gW ((k:Int)+1) aD]<|.e (ae [.b 8 (.iD rfl:Bx.le (.cells 39 (iy (ji (iM (jA (m.getD N []) p k) (ku ((m.getD N []).getD k gL))) p true))) (.cells 39 (iy (jA (m.getD N []) p (k+1)))))])) aG)
  (λhk=>by
    have v1:=oi (m.getD N []) (aD:1<=p) aD K;have v2:=ga.mF (aD:N<n) (aD:K<c);have v3:=pJ v2.kn.1 v2.kn.2;have gga:=nU;exact gX (ae [iX (N:Int) (m.length) aD,tT 32 ((K:Int)<((m.getD N []).length:Int)) aD,iX (N:Int) (m.length) aD,iX (K:Int) ((m.getD N []).length) aD,ah 42 (((m.getD N []).getD K gL).all) gga,iX (N:Int) (m.length) aD,iX (K:Int) ((m.getD N []).length) aD,.c (wE ((m.getD N []).getD K gL) aE gga),.c (vz (jA (m.getD N []) p K) (ku ((m.getD N []).getD K gL)) p true aE aE aD aD),ag 59 ((jl (iM (jA (m.getD N []) p K) (ku ((m.getD N []).getD K gL))) p true) != 0) (by simpa using mS),.o 60 (.e qM:ai (.agg aq) (gM ix))]) aG) aK:iF 9 f143 (Uo m p N K 0) .ret ⟨67,true,[(5,.e (bP false)),(4,.box 4 0)],[(4,.cells 39 (iy ix))]⟩) (ae [.b 8 (.cells (λ_=>rfl) pE:Bx.le (.cells 39 aq) (.cells 39 (iy (jA (m.getD N []) p 0))))])]) aG) aK:iF 5 f143 (Un m p N 0) .ret ⟨67,true,[(5,.e (bP false)),(4,.box 4 0)],[(4,.cells 39 (iy ix))]⟩) (ae [.b 6 (.cells (λ_=>rfl) pE:Bx.le (.cells 39 aq) (.cells 39 (iy (jF m p 0))))])]) 
def afK(m:List (List Iv))(n c p:Nat)(ga:iY m n c)(ie:8<=p)(gS:p<=512)(d:Dy)(hd:vy m p=some d):gJ 143 [gV m,iP (p:Int)] (.hH [gM d,bP true])/\d.gQ:=by
 have hg:∀ x,x<m.length->∀ k,k<(m.getD x []).length->nK (m.getD x []) p k:=by
  intro x hx k hk;apply bY;intro q;rw[Lm hx hk q]at hd;cases hd
 rw[D1 hg]at hd;cases hd;exact⟨afJ m n c p ga ie gS hg,xA m aD aD _⟩
def afI(m:List (List Iv))(n c p:Nat)(ga:iY m n c)(ie:8<=p)(gS:p<=512)(hd:vy m p=none):gJ 143 [gV m,iP (p:Int)] (.hH [gM ix,bP false]):=by
 have hb:¬∀ x,x<m.length->∀ k,k<(m.getD x []).length->nK (m.getD x []) p k:=λhg=>by rw[D1 hg]at hd;cases hd
 obtain⟨N,h1,h2,h3⟩:=FI (Q:=λx=>∀ k,k<(m.getD x []).length->nK (m.getD x []) p k) hb;obtain⟨K,k1,k2,k3⟩:=FI h2;by_cases ha:((m.getD N []).getD K gL).all=true
 .exact afG m n c p ga ie gS N K h1 k1 h3 k3 ha
 .replace ha:((m.getD N []).getD K gL).all=false:=by simpa using ha
  refine afH m n c p ga ie gS N K h1 k1 h3 k3 ha λq=>?_
  exact k2 ⟨ha,q⟩
def Ca(r:List Iv):((List.range (r.length)).any λj_=>(r.getD j_ gL).all)=r.any λx=>x.all:=by
 rw[dn,cE,cE];constructor
 .rintro ⟨j,h1,h2⟩;have hj:=bD.1 h1;rw[sT hj]at h2;exact⟨_,ch hj,h2⟩
 .rintro ⟨x,h1,h2⟩;obtain⟨j,hj,rfl⟩:=List.mem_iff_getElem.1 h1;exact⟨j,bD.2 hj,by rw[sT hj];exact h2⟩
def L3(m:List (List Iv)):((List.range (m.length)).any λi_=>(m.getD i_ []).any λx=>x.all)=m.any λr=>r.any λx=>x.all:=by
 rw[dn,cE,cE];constructor
 .rintro ⟨j,h1,h2⟩;have hj:=bD.1 h1;rw[sT hj]at h2;exact⟨_,ch hj,h2⟩
 .rintro ⟨x,h1,h2⟩;obtain⟨j,hj,rfl⟩:=List.mem_iff_getElem.1 h1;exact⟨j,bD.2 hj,by rw[sT hj];exact h2⟩
def W2(x:Iv):gJ 213 [gR x] (bP x.all):=
 aj call213 func213 (.nil) 
def W3(r:List Iv)(hl:r.length<=1000):gJ 212 [ic r] (bP (r.any λx=>x.all)):=
 aj call212 func212 (aa [.c (yB true r.length (ja r) 213 [] (λj_=>(r.getD j_ gL).all) (λj hj=>W2 _) aD:gJ 40 [ic r,.fn 213 []] _)]<|rQ (bP ((List.range (r.length)).any λj_=>(r.getD j_ gL).all)) (bP (r.any λx=>x.all)) (by rw[Ca])) 
def M3(m:List (List Iv))(hl:m.length<=1000)(hr:∀ i,(m.getD i []).length<=1000):gJ 131 [gV m] (bP (m.any λr=>r.any λx=>x.all)):=
 aj call131 func131 (aa [.c (Hq true m.length (lj m) 212 [] (λi_=>(m.getD i_ []).any λx=>x.all) (λi hi=>W3 _ (hr i)) aD:gJ 163 [gV m,.fn 212 []] _)]<|rQ (bP ((List.range (m.length)).any λi_=>(m.getD i_ []).any λx=>x.all)) (bP (m.any λr=>r.any λx=>x.all)) (by rw[L3])) 
def Ev(m:List (List Iv))(n c:Nat)(ga:iY m n c):gJ 123 [gV m] (bP (decide (n=c))):=by
 have ra:=ga.iH;have n1:=ga.n1;have la:=ga.kS (aD:0<n);by_cases h:n=c
 .exact aj call123 func123 (aa [af [gV m] (wm _ _ _ aE),iX 0 (m.length) aD,ag 12 ((m.length:Int)==((m.getD 0 []).length:Int)) (DY aD)]<|rQ (bP true) (bP (decide (n=c))) (by rw[bk h])) 
 .exact aj call123 func123 (aa [af [gV m] (wm _ _ _ aE),iX 0 (m.length) aD,ah 12 ((m.length:Int)==((m.getD 0 []).length:Int)) (SG aD)]<|rQ (bP false) (bP (decide (n=c))) (by rw[bl h])) 
def adK{d:Dy}(hd:d.neg=false):jh (iB d) d<=0:=by
 rw[nH (k:=d.e) (.inr (show d.e<=(iB d).e from b8 _)) (.inr (b8 _))];have h1:=Lt hd d.e;by_cases h0:d.m=0
 .have:(iB d).num d.e=0:=by unfold Dy.num Dy.jP iB;simp[h0]
  omega
 .rw [Ls d d.e h0];omega
def Em(m:List (List Iv))(h:Iv)(n c k p:Nat)(ga:iY m n c)(hh:h.gQ)(hk:k<=1000)(ie:8<=p)(gS:p<=512):
 (∀ e,q8 m h k p=some e->gJ 124 [gV m,gR h,iP (k:Int),iP (p:Int)] (.hH [gR e,bP true])/\e.gQ/\e.all=false) /\
 (q8 m h k p=none->∃ x:Iv,gJ 124 [gV m,gR h,iP (k:Int),iP (p:Int)] (.hH [gR x,bP false])):=by
 cases hn:vy m p with
 |none=>
  refine⟨λe he=>?_,λ_=>⟨_,agL m h n c k p ga hh hk ie gS hn⟩⟩;unfold q8 at he;rw[hn]at he;cases he
 |some d=>
  obtain⟨hp,hd⟩:=ad1 m n c p ga ie gS d hn;have hdn:d.neg=false:=by
   have hg:∀ i,i<m.length->∀ k,k<(m.getD i []).length->nK (m.getD i []) p k:=by
    intro i hi k hk;apply bY;intro q;rw[Lm hi hk q]at hn;cases hn
   rw[D1 hg]at hn;cases hn;exact SU _ _ _
  have Q5:(ia (ib h) (gZ d) p).NN:=SA (WW h) (Tm hdn) p;unfold q8;rw[hn,cS];simp only;by_cases hu:(ia (ib h) (gZ d) p).all=true
  .rw [bj (by rw[hu];rfl)];exact⟨λe hx=>(by cases hx),λ_=>⟨_,agM m h n c k p ga hh hk ie gS d hp hd hu⟩⟩
  .replace hu:(ia (ib h) (gZ d) p).all=false:=by simpa using hu
   by_cases hc:0<=jh (ia (ib h) (gZ d) p).hi (jI ((k+2:Nat):Int))
   .rw [bj (by rw[hu,bk hc];rfl)];exact⟨λe hx=>(by cases hx),λ_=>⟨_,agN m h n c k p ga hh hk ie gS d hp hd hu hc⟩⟩
   .rw [bh (by rw[hu,bl hc];decide)];by_cases he:(ik (jJ (ia (ib h) (gZ d) p) p (k+1)) (je (gY 1) (ik (ia (ib h) (gZ d) p) (gY ((k+2:Nat):Int)) p) p) p).all=true
    .rw [bj he];exact⟨λe hx=>(by cases hx),λ_=>⟨_,agO m h n c k p ga hh hk ie gS d hp hd hu hc he⟩⟩
    .rw [bh he];replace he:(ik (jJ (ia (ib h) (gZ d) p) p (k+1)) (je (gY 1) (ik (ia (ib h) (gZ d) p) (gY ((k+2:Nat):Int)) p) p) p).all=false:=by simpa using he
     have hv:=lT (jJ (ia (ib h) (gZ d) p) p (k+1)) (je (gY 1) (ik (ia (ib h) (gZ d) p) (gY ((k+2:Nat):Int)) p) p) (aD:1<=p) (aD:p<=4096);have hnn:=agK (c:=k+2) Q5 aD hu aD (Tn Q5 p (k+1)) he (aD:1<=p) aD;refine⟨λe hx=>?_,λhx=>(by cases hx)⟩;cases hx;exact⟨agP m h n c k p ga hh hk ie gS d hp hd hu hc he,.inr ⟨rfl,pL hv.kn.2,hv.kn.2,adK hnn.hi⟩,rfl⟩
end Go.Proofs.YtkjkcjhacddojaaGreatDoor
