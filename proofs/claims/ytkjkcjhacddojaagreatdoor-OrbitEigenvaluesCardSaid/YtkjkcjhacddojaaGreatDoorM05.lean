/- The law OrbitEigenvalues is true for all arguments: what is said to be stable has a negative trace and a positive determinant. -/
import Derived.Test.YtkjkcjhacddojaaGreatDoorM04
set_option linter.unusedSimpArgs false
set_option linter.unusedVariables false
set_option linter.defProp false
set_option maxHeartbeats 4000000
open Go.Proofs.Tryz
namespace Go.Proofs.YtkjkcjhacddojaaGreatDoor
open Go.RowKit Fp Pu
def MO(b:List RI)(N:Nat)(i:Nat):PS:=⟨31,true,[(3,.e (iP i)),(0,.e (pA b))],[]⟩
def MQ(b:List RI)(N:Nat)(i:Nat):PS:=⟨31,true,[(3,.e (iP i)),(0,.e (pA b))],[]⟩
def MR(b:List RI)(i:Nat):PS:=⟨31,true,[(3,.e (iP i)),(0,.e (pA b))],[]⟩
def VB(b:List RI)(gb:∀ i,(b.getD i jR).mz)(hl:b.length=2)(N:Nat)(oF:N<b.length)(jK:∀ k,k<N->nc (b.getD k jR)=true/\(b.getD k jR).all=false)(hN:(b.getD N jR).all=true):gU 16 [pA b] (bP false):=
 ak call16 func16 (af [tF 6 ((b.length:Int)<1) aC,tF 10 (8<(b.length:Int)) aC,.s (Sp.kY (MO b N) 0 N aC (λi hi rD=>by
    exact jg (af [tT 15 ((i:Int)<b.length) aC,iX (i:Int) (b.length) aC,ai 22 ((b.getD i jR).all) ((jK i aC).2),iX (i:Int) (b.length) aC,.c (Gx (b.getD i jR) (gb _)),ai 29 (!(nc (b.getD i jR))) (by rw[(jK i aC).1];rfl),iu ((i:Int)+1) aC]) aF)
  (λhi=>by
    exact jg (af [tT 15 ((N:Int)<b.length) aC,iX (N:Int) (b.length) aC,ah 22 ((b.getD N jR).all) hN]) aF) aI:kU 4 Tryz.f16 (MO b N 0) .ret ⟨31,true,[(2,.e (bP false))],[]⟩) .nil]) 
def VC(b:List RI)(gb:∀ i,(b.getD i jR).mz)(hl:b.length=2)(N:Nat)(oF:N<b.length)(jK:∀ k,k<N->nc (b.getD k jR)=true/\(b.getD k jR).all=false)(hN:(b.getD N jR).all=false)(hM:nc (b.getD N jR)=false):gU 16 [pA b] (bP false):=
 ak call16 func16 (af [tF 6 ((b.length:Int)<1) aC,tF 10 (8<(b.length:Int)) aC,.s (Sp.kY (MQ b N) 0 N aC (λi hi rD=>by
    exact jg (af [tT 15 ((i:Int)<b.length) aC,iX (i:Int) (b.length) aC,ai 22 ((b.getD i jR).all) ((jK i aC).2),iX (i:Int) (b.length) aC,.c (Gx (b.getD i jR) (gb _)),ai 29 (!(nc (b.getD i jR))) (by rw[(jK i aC).1];rfl),iu ((i:Int)+1) aC]) aF)
  (λhi=>by
    exact jg (af [tT 15 ((N:Int)<b.length) aC,iX (N:Int) (b.length) aC,ai 22 ((b.getD N jR).all) hN,iX (N:Int) (b.length) aC,.c (Gx (b.getD N jR) (gb _)),ah 29 (!(nc (b.getD N jR))) (by rw[hM];rfl)]) aF) aI:kU 4 Tryz.f16 (MQ b N 0) .ret ⟨31,true,[(2,.e (bP false))],[]⟩) .nil]) 
def VD(b:List RI)(gb:∀ i,(b.getD i jR).mz)(hl:b.length=2)(jK:∀ k,k<b.length->nc (b.getD k jR)=true/\(b.getD k jR).all=false):gU 16 [pA b] (bP true):=
 ak call16 func16 (af [tF 6 ((b.length:Int)<1) aC,tF 10 (8<(b.length:Int)) aC,.s (Sp.kY (MR b) 0 b.length aC (λi hi rD=>by
    exact jg (af [tT 15 ((i:Int)<b.length) aC,iX (i:Int) (b.length) aC,ai 22 ((b.getD i jR).all) ((jK i aC).2),iX (i:Int) (b.length) aC,.c (Gx (b.getD i jR) (gb _)),ai 29 (!(nc (b.getD i jR))) (by rw[(jK i aC).1];rfl),iu ((i:Int)+1) aC]) aF)
  (λhi=>by
    exact jg (af [tF 15 ((b.length:Int)<b.length) aC]) aF) aI:kU 4 Tryz.f16 (MR b 0) (.exit 0) ⟨31,true,[],[]⟩) .nil]) 
noncomputable def BU(b:List RI):Bool:=(List.range b.length).all λi=>Ap (b.getD i jR)
def MS(b:List RI)(gb:∀ i,(b.getD i jR).mz)(hl:b.length=2):gU 16 [pA b] (bP (BU b)):=by
 by_cases c4:BU b=true
 .rw [c4];exact VD b gb hl λk hk=>by simpa[Ap]using List.all_eq_true.1 c4 k (cz.2 hk)
 .rw [aV c4];obtain⟨N,n1,n2,n3⟩:=Ml c4;have PR:∀ k,k<N->nc (b.getD k jR)=true/\(b.getD k jR).all=false:=λk hk=>by simpa[Ap]using n3 k hk
  cases ha:(b.getD N jR).all with
  |true=>exact VB b gb hl N n1 PR ha
  |false=>exact VC b gb hl N n1 PR ha (by
   cases hk:nc (b.getD N jR)with
   |false=>rfl
   |true=>rw[show Ap (b.getD N jR)=true by unfold Ap;rw[hk,ha];rfl]at n2;cases n2)
def XB(p q r t:Int)(x:List RI)(gx:∀ i,(x.getD i jR).mz)(hE:¬x.length=2\/¬wi x=true\/¬BU x=true):gU 4 [.v (.int .i8 p),.v (.int .i8 q),.v (.int .i8 r),.v (.int .i8 t),pA x] (bP true):=
 ak call4 func4 (ae [.c BJ]<|.w ((x.length:Int)=2)
  (λk1=>ae [tB 25 (aW k1),.c (QK x)]<|.w (wi x=true)
   (λk2=>ae [tB 28 k2,ag [pA x] (MS x gx aC)]<|.w (BU x=true)
    (λk3=>.x (by rcases hE with q|q|q<;>first|contradiction|omega))
    (λk3=>af [tB 33 (aV k3)]))
   (λk2=>af [tB 28 (aV k2)]))
  (λk1=>af [tB 25 (aX k1)])) 
def yE(q:Int):(if 0-q>q then 0-q else q)=ke q:=by
 unfold ke;split<;>omega
def vX{a b:Int}(h1:S8 a)(h2:S8 b):-16384<=a*b/\a*b<=16384:=by
 have e:(a*b).natAbs=a.natAbs*b.natAbs:=Int.natAbs_mul a b;have h:=cW (show a.natAbs<=128 by have:=h1.1;have:=h1.2;omega) (show b.natAbs<=128 by have:=h2.1;have:=h2.2;omega);omega
def Xw(p q r t:Int)(X Y:Iv)(h1:S8 p)(h2:S8 q)(h3:S8 r)(h4:S8 t)(hX:Bd X 1000)(hY:Bd Y 1000)(w7:gU 9 [im [X,Y]] (bP true))(j9:gU 16 [im [X,Y]] (bP true))(c1:p<0-ke q)(c2:t<0-ke r):gU 4 [.v (.int .i8 p),.v (.int .i8 q),.v (.int .i8 r),.v (.int .i8 t),im [X,Y]] (bP true):=by
 obtain⟨g1,g2⟩:=h1;obtain⟨g3,g4⟩:=h2;obtain⟨g5,g6⟩:=h3;obtain⟨g7,g8⟩:=h4;have hb:nJ (kH p q r t).jy [X,Y]:=⟨rfl,λi hi=>by
  have hi:i<2:=hi;obtain rfl|rfl:i=0\/i=1:= aC 
  .exact ⟨hX.v,hX.a⟩
  .exact ⟨hY.v,hY.a⟩⟩
 have j8:mR (kH p q r t):=Ai ⟨aC,aC⟩ ⟨aC,aC⟩ ⟨aC,aC⟩ ⟨aC,aC⟩;have pX:=AG (kH p q r t) [X,Y] 60 j8 hb aE aE;have pZ:=Ch (kH p q r t) [X,Y] 60 j8 hb aE aE;obtain⟨l1,l2⟩:=Dz (p:=p) (q:=q) (r:=r) (t:=t) ⟨g1,g2⟩ ⟨g3,g4⟩ ⟨g5,g6⟩ ⟨g7,g8⟩ hX hY;rw[l1]at pX;rw[l2]at pZ;obtain⟨a1,a2⟩:=sd (c:=q) ⟨g3,g4⟩;obtain⟨a3,a4⟩:=sd (c:=r) ⟨g5,g6⟩;obtain⟨m1,m2⟩:=vX (a:=p) (b:=t) ⟨g1,g2⟩ ⟨g7,g8⟩;obtain⟨m3,m4⟩:=vX (a:=q) (b:=r) ⟨g3,g4⟩ ⟨g5,g6⟩;obtain⟨d1,d2⟩:=WT (p:=p) (q:=q) (r:=r) (t:=t) aC aC;rw[bh (⟨aC,aC⟩:_/\_)]at pX;rw[bg aC]at pZ;exact ak call4 func4 (af [.c BJ,ai 25 ((([X,Y].length:Nat):Int) != 2) rfl,ag [im [X,Y]] w7,ag [im [X,Y]] j9,.o 37 (aq (IntKind.i64.wrap p) p (i64_in _ aC aC)),.o 39 (aq (IntKind.i64.wrap q) q (i64_in _ aC aC)),.o 41 (aq (IntKind.i64.wrap r) r (i64_in _ aC aC)),.o 43 (aq (IntKind.i64.wrap t) t (i64_in _ aC aC)),.c (BM p q r t ⟨aC,aC⟩ ⟨aC,aC⟩ ⟨aC,aC⟩ ⟨aC,aC⟩),iu (p+t) aC,iu (p*t) aC,iu (q*r) aC,iu ((p*t)-(q*r)) aC,ag [kX (kH p q r t),im [X,Y],iP 60] pX,ag [kX (kH p q r t),im [X,Y],iP 60] pZ,iu (0-q) aC,.o 69 (aq (if(0-q)>q then(0-q)else q) (ke q) (yE q)),iu (0-(ke q)) aC,tT 71 (p<(0-(ke q))) aC,iu (0-r) aC,.o 77 (aq (if(0-r)>r then(0-r)else r) (ke r) (yE r)),iu (0-(ke r)) aC,tT 79 (t<(0-(ke r))) aC,tT 85 ((p+t)<0) aC,tT 88 (0<((p*t)-(q*r))) aC,ah 106 (true==true) rfl,tF 111 (0<(p+t)) aC,ah 112 (false==false) rfl]) 
def Xx(p q r t:Int)(X Y:Iv)(h1:S8 p)(h2:S8 q)(h3:S8 r)(h4:S8 t)(hX:Bd X 1000)(hY:Bd Y 1000)(w7:gU 9 [im [X,Y]] (bP true))(j9:gU 16 [im [X,Y]] (bP true))(c1:¬p<0-ke q)(c2:0<p+t):gU 4 [.v (.int .i8 p),.v (.int .i8 q),.v (.int .i8 r),.v (.int .i8 t),im [X,Y]] (bP true):=by
 obtain⟨g1,g2⟩:=h1;obtain⟨g3,g4⟩:=h2;obtain⟨g5,g6⟩:=h3;obtain⟨g7,g8⟩:=h4;have hb:nJ (kH p q r t).jy [X,Y]:=⟨rfl,λi hi=>by
  have hi:i<2:=hi;obtain rfl|rfl:i=0\/i=1:= aC 
  .exact ⟨hX.v,hX.a⟩
  .exact ⟨hY.v,hY.a⟩⟩
 have j8:mR (kH p q r t):=Ai ⟨aC,aC⟩ ⟨aC,aC⟩ ⟨aC,aC⟩ ⟨aC,aC⟩;have pX:=AG (kH p q r t) [X,Y] 60 j8 hb aE aE;have pZ:=Ch (kH p q r t) [X,Y] 60 j8 hb aE aE;obtain⟨l1,l2⟩:=Dz (p:=p) (q:=q) (r:=r) (t:=t) ⟨g1,g2⟩ ⟨g3,g4⟩ ⟨g5,g6⟩ ⟨g7,g8⟩ hX hY;rw[l1]at pX;rw[l2]at pZ;obtain⟨a1,a2⟩:=sd (c:=q) ⟨g3,g4⟩;obtain⟨a3,a4⟩:=sd (c:=r) ⟨g5,g6⟩;obtain⟨m1,m2⟩:=vX (a:=p) (b:=t) ⟨g1,g2⟩ ⟨g7,g8⟩;obtain⟨m3,m4⟩:=vX (a:=q) (b:=r) ⟨g3,g4⟩ ⟨g5,g6⟩;have c4:¬(p+ke q<0/\t+ke r<0):= aC ;rw[bg c4]at pX;rw[bh c2]at pZ;exact ak call4 func4 (af [.c BJ,ai 25 ((([X,Y].length:Nat):Int) != 2) rfl,ag [im [X,Y]] w7,ag [im [X,Y]] j9,.o 37 (aq (IntKind.i64.wrap p) p (i64_in _ aC aC)),.o 39 (aq (IntKind.i64.wrap q) q (i64_in _ aC aC)),.o 41 (aq (IntKind.i64.wrap r) r (i64_in _ aC aC)),.o 43 (aq (IntKind.i64.wrap t) t (i64_in _ aC aC)),.c (BM p q r t ⟨aC,aC⟩ ⟨aC,aC⟩ ⟨aC,aC⟩ ⟨aC,aC⟩),iu (p+t) aC,iu (p*t) aC,iu (q*r) aC,iu ((p*t)-(q*r)) aC,ag [kX (kH p q r t),im [X,Y],iP 60] pX,ag [kX (kH p q r t),im [X,Y],iP 60] pZ,iu (0-q) aC,.o 69 (aq (if(0-q)>q then(0-q)else q) (ke q) (yE q)),iu (0-(ke q)) aC,tF 71 (p<(0-(ke q))) aC,tT 96 (0<(p+t)) aC,ah 106 (false==false) rfl,tT 111 (0<(p+t)) aC,ah 112 (true==true) rfl]) 
def Xy(p q r t:Int)(X Y:Iv)(h1:S8 p)(h2:S8 q)(h3:S8 r)(h4:S8 t)(hX:Bd X 1000)(hY:Bd Y 1000)(w7:gU 9 [im [X,Y]] (bP true))(j9:gU 16 [im [X,Y]] (bP true))(c1:¬p<0-ke q)(c2:¬0<p+t):gU 4 [.v (.int .i8 p),.v (.int .i8 q),.v (.int .i8 r),.v (.int .i8 t),im [X,Y]] (bP true):=by
 obtain⟨g1,g2⟩:=h1;obtain⟨g3,g4⟩:=h2;obtain⟨g5,g6⟩:=h3;obtain⟨g7,g8⟩:=h4;have hb:nJ (kH p q r t).jy [X,Y]:=⟨rfl,λi hi=>by
  have hi:i<2:=hi;obtain rfl|rfl:i=0\/i=1:= aC 
  .exact ⟨hX.v,hX.a⟩
  .exact ⟨hY.v,hY.a⟩⟩
 have j8:mR (kH p q r t):=Ai ⟨aC,aC⟩ ⟨aC,aC⟩ ⟨aC,aC⟩ ⟨aC,aC⟩;have pX:=AG (kH p q r t) [X,Y] 60 j8 hb aE aE;have pZ:=Ch (kH p q r t) [X,Y] 60 j8 hb aE aE;obtain⟨l1,l2⟩:=Dz (p:=p) (q:=q) (r:=r) (t:=t) ⟨g1,g2⟩ ⟨g3,g4⟩ ⟨g5,g6⟩ ⟨g7,g8⟩ hX hY;rw[l1]at pX;rw[l2]at pZ;obtain⟨a1,a2⟩:=sd (c:=q) ⟨g3,g4⟩;obtain⟨a3,a4⟩:=sd (c:=r) ⟨g5,g6⟩;obtain⟨m1,m2⟩:=vX (a:=p) (b:=t) ⟨g1,g2⟩ ⟨g7,g8⟩;obtain⟨m3,m4⟩:=vX (a:=q) (b:=r) ⟨g3,g4⟩ ⟨g5,g6⟩;have c4:¬(p+ke q<0/\t+ke r<0):= aC ;rw[bg c4]at pX;rw[bg c2]at pZ;exact ak call4 func4 (af [.c BJ,ai 25 ((([X,Y].length:Nat):Int) != 2) rfl,ag [im [X,Y]] w7,ag [im [X,Y]] j9,.o 37 (aq (IntKind.i64.wrap p) p (i64_in _ aC aC)),.o 39 (aq (IntKind.i64.wrap q) q (i64_in _ aC aC)),.o 41 (aq (IntKind.i64.wrap r) r (i64_in _ aC aC)),.o 43 (aq (IntKind.i64.wrap t) t (i64_in _ aC aC)),.c (BM p q r t ⟨aC,aC⟩ ⟨aC,aC⟩ ⟨aC,aC⟩ ⟨aC,aC⟩),iu (p+t) aC,iu (p*t) aC,iu (q*r) aC,iu ((p*t)-(q*r)) aC,ag [kX (kH p q r t),im [X,Y],iP 60] pX,ag [kX (kH p q r t),im [X,Y],iP 60] pZ,iu (0-q) aC,.o 69 (aq (if(0-q)>q then(0-q)else q) (ke q) (yE q)),iu (0-(ke q)) aC,tF 71 (p<(0-(ke q))) aC,ah 106 (false==false) rfl,tF 111 (0<(p+t)) aC,ah 112 (false==false) rfl]) 
def Xz(p q r t:Int)(X Y:Iv)(h1:S8 p)(h2:S8 q)(h3:S8 r)(h4:S8 t)(hX:Bd X 1000)(hY:Bd Y 1000)(w7:gU 9 [im [X,Y]] (bP true))(j9:gU 16 [im [X,Y]] (bP true))(c1:p<0-ke q)(c3:¬t<0-ke r)(c2:0<p+t):gU 4 [.v (.int .i8 p),.v (.int .i8 q),.v (.int .i8 r),.v (.int .i8 t),im [X,Y]] (bP true):=by
 obtain⟨g1,g2⟩:=h1;obtain⟨g3,g4⟩:=h2;obtain⟨g5,g6⟩:=h3;obtain⟨g7,g8⟩:=h4;have hb:nJ (kH p q r t).jy [X,Y]:=⟨rfl,λi hi=>by
  have hi:i<2:=hi;obtain rfl|rfl:i=0\/i=1:= aC 
  .exact ⟨hX.v,hX.a⟩
  .exact ⟨hY.v,hY.a⟩⟩
 have j8:mR (kH p q r t):=Ai ⟨aC,aC⟩ ⟨aC,aC⟩ ⟨aC,aC⟩ ⟨aC,aC⟩;have pX:=AG (kH p q r t) [X,Y] 60 j8 hb aE aE;have pZ:=Ch (kH p q r t) [X,Y] 60 j8 hb aE aE;obtain⟨l1,l2⟩:=Dz (p:=p) (q:=q) (r:=r) (t:=t) ⟨g1,g2⟩ ⟨g3,g4⟩ ⟨g5,g6⟩ ⟨g7,g8⟩ hX hY;rw[l1]at pX;rw[l2]at pZ;obtain⟨a1,a2⟩:=sd (c:=q) ⟨g3,g4⟩;obtain⟨a3,a4⟩:=sd (c:=r) ⟨g5,g6⟩;obtain⟨m1,m2⟩:=vX (a:=p) (b:=t) ⟨g1,g2⟩ ⟨g7,g8⟩;obtain⟨m3,m4⟩:=vX (a:=q) (b:=r) ⟨g3,g4⟩ ⟨g5,g6⟩;have c4:¬(p+ke q<0/\t+ke r<0):= aC ;rw[bg c4]at pX;rw[bh c2]at pZ;exact ak call4 func4 (af [.c BJ,ai 25 ((([X,Y].length:Nat):Int) != 2) rfl,ag [im [X,Y]] w7,ag [im [X,Y]] j9,.o 37 (aq (IntKind.i64.wrap p) p (i64_in _ aC aC)),.o 39 (aq (IntKind.i64.wrap q) q (i64_in _ aC aC)),.o 41 (aq (IntKind.i64.wrap r) r (i64_in _ aC aC)),.o 43 (aq (IntKind.i64.wrap t) t (i64_in _ aC aC)),.c (BM p q r t ⟨aC,aC⟩ ⟨aC,aC⟩ ⟨aC,aC⟩ ⟨aC,aC⟩),iu (p+t) aC,iu (p*t) aC,iu (q*r) aC,iu ((p*t)-(q*r)) aC,ag [kX (kH p q r t),im [X,Y],iP 60] pX,ag [kX (kH p q r t),im [X,Y],iP 60] pZ,iu (0-q) aC,.o 69 (aq (if(0-q)>q then(0-q)else q) (ke q) (yE q)),iu (0-(ke q)) aC,tT 71 (p<(0-(ke q))) aC,iu (0-r) aC,.o 77 (aq (if(0-r)>r then(0-r)else r) (ke r) (yE r)),iu (0-(ke r)) aC,tF 79 (t<(0-(ke r))) aC,tT 96 (0<(p+t)) aC,ah 106 (false==false) rfl,tT 111 (0<(p+t)) aC,ah 112 (true==true) rfl]) 
def XA(p q r t:Int)(X Y:Iv)(h1:S8 p)(h2:S8 q)(h3:S8 r)(h4:S8 t)(hX:Bd X 1000)(hY:Bd Y 1000)(w7:gU 9 [im [X,Y]] (bP true))(j9:gU 16 [im [X,Y]] (bP true))(c1:p<0-ke q)(c3:¬t<0-ke r)(c2:¬0<p+t):gU 4 [.v (.int .i8 p),.v (.int .i8 q),.v (.int .i8 r),.v (.int .i8 t),im [X,Y]] (bP true):=by
 obtain⟨g1,g2⟩:=h1;obtain⟨g3,g4⟩:=h2;obtain⟨g5,g6⟩:=h3;obtain⟨g7,g8⟩:=h4;have hb:nJ (kH p q r t).jy [X,Y]:=⟨rfl,λi hi=>by
  have hi:i<2:=hi;obtain rfl|rfl:i=0\/i=1:= aC 
  .exact ⟨hX.v,hX.a⟩
  .exact ⟨hY.v,hY.a⟩⟩
 have j8:mR (kH p q r t):=Ai ⟨aC,aC⟩ ⟨aC,aC⟩ ⟨aC,aC⟩ ⟨aC,aC⟩;have pX:=AG (kH p q r t) [X,Y] 60 j8 hb aE aE;have pZ:=Ch (kH p q r t) [X,Y] 60 j8 hb aE aE;obtain⟨l1,l2⟩:=Dz (p:=p) (q:=q) (r:=r) (t:=t) ⟨g1,g2⟩ ⟨g3,g4⟩ ⟨g5,g6⟩ ⟨g7,g8⟩ hX hY;rw[l1]at pX;rw[l2]at pZ;obtain⟨a1,a2⟩:=sd (c:=q) ⟨g3,g4⟩;obtain⟨a3,a4⟩:=sd (c:=r) ⟨g5,g6⟩;obtain⟨m1,m2⟩:=vX (a:=p) (b:=t) ⟨g1,g2⟩ ⟨g7,g8⟩;obtain⟨m3,m4⟩:=vX (a:=q) (b:=r) ⟨g3,g4⟩ ⟨g5,g6⟩;have c4:¬(p+ke q<0/\t+ke r<0):= aC ;rw[bg c4]at pX;rw[bg c2]at pZ;exact ak call4 func4 (af [.c BJ,ai 25 ((([X,Y].length:Nat):Int) != 2) rfl,ag [im [X,Y]] w7,ag [im [X,Y]] j9,.o 37 (aq (IntKind.i64.wrap p) p (i64_in _ aC aC)),.o 39 (aq (IntKind.i64.wrap q) q (i64_in _ aC aC)),.o 41 (aq (IntKind.i64.wrap r) r (i64_in _ aC aC)),.o 43 (aq (IntKind.i64.wrap t) t (i64_in _ aC aC)),.c (BM p q r t ⟨aC,aC⟩ ⟨aC,aC⟩ ⟨aC,aC⟩ ⟨aC,aC⟩),iu (p+t) aC,iu (p*t) aC,iu (q*r) aC,iu ((p*t)-(q*r)) aC,ag [kX (kH p q r t),im [X,Y],iP 60] pX,ag [kX (kH p q r t),im [X,Y],iP 60] pZ,iu (0-q) aC,.o 69 (aq (if(0-q)>q then(0-q)else q) (ke q) (yE q)),iu (0-(ke q)) aC,tT 71 (p<(0-(ke q))) aC,iu (0-r) aC,.o 77 (aq (if(0-r)>r then(0-r)else r) (ke r) (yE r)),iu (0-(ke r)) aC,tF 79 (t<(0-(ke r))) aC,ah 106 (false==false) rfl,tF 111 (0<(p+t)) aC,ah 112 (false==false) rfl]) 
set_option exponentiation.threshold 1000 in
def NV{d:RD}(g:d.mz)(hl:qb d=false):-P2 1000<=d.dy.q/\d.dy.q<=P2 1000:=by
 unfold qb at hl;rw[ez,ez]at hl;have l1:=fi hl.1;have l2:=fi hl.2.1;have key:(d.dy.m:Rat)*P2 d.dy.e<=P2 1000:=by
  have hm:d.dy.m<2^640:=by
   have h1:d.dy.m<4294967296^d.L.length:=mQ g.ok;have h2:4294967296^d.L.length<=4294967296^20:=bH aE aC;have h3:(4294967296:Nat)^20=2^640:=by rw[show(4294967296:Nat)=2^32 by decide,<-Nat.pow_mul]
   rw[h3]at h2;exact bM h1 h2
  have h4:(d.dy.m:Rat)<=P2 640:=by
   rw[show(640:Int)=((640:Nat):Int)from rfl,vh];exact dr.2 (dq hm)
  have h5:P2 d.dy.e<=P2 300:=y8 (aC:d.e<=300);have h6:P2 640*P2 300<=P2 1000:=by rw[<-oE];exact y8 aE 
  have h7:=lV d.dy.e;have h8:=lV 640;exact bF (bF (cg h4 (bG h7)) (cE h5 (bG h8))) h6
 have h0:0<=(d.dy.m:Rat)*P2 d.dy.e:=bQ cM (bG (lV _));rw[py];have hp:=lV 1000;split<;>constructor<;>grind
def abb(p q r t:Int)(x:List RI)(h1:S8 p)(h2:S8 q)(h3:S8 r)(h4:S8 t)(gx0:∀ y,y ∈ x->y.mz):gU 4 [.v (.int .i8 p),.v (.int .i8 q),.v (.int .i8 r),.v (.int .i8 t),pA x] (bP true):=by
 have gx:=Zq gx0;by_cases hE:¬x.length=2\/¬wi x=true\/¬BU x=true
 .exact XB p q r t x gx hE
 have hl:x.length=2:=bN λq=>hE (.inl q)
 have hs:wi x=true:=bN λq=>hE (.inr (.inl q))
 have hp:BU x=true:=bN λq=>hE (.inr (.inr q))
 have Z9:EV 2 x=true:=by
  unfold EV;rw[bS,cI];exact⟨aC,hp⟩
 obtain⟨o5,e4⟩:=Vl gx Z9;have c2:=QK x;have c3:=MS x gx hl;rw[hs,e4]at c2;rw[hp,e4]at c3;rw[e4];have key:∀ i,i<2->Bd ((x.map RI.iv).getD i ie) 1000:=λi hi=>by
  obtain⟨v,a⟩:=o5.2 i (by rw[dK];omega);have zT:tH (x.getD i jR)=false:=by
   unfold wi at hs;rw[bS]at hs;have:=dp.1 (by simpa using hs.2:((List.range x.length).any λi=>tH (x.getD i jR))=false) i (cz.2 aC);simpa using this
  unfold tH at zT;rw[ez]at zT;have e:(x.map RI.iv).getD i ie=(x.getD i jR).iv:=by
   rw[bc,bc,cD,bt aC];rfl
  refine⟨v,a,?_,?_⟩
  .rw [e];exact(NV (gx i).lo zT.1).1
  .rw [e];exact(NV (gx i).hi zT.2).2
 obtain⟨a,b,rfl⟩:∃ a b,x=[a,b]:=by
  match x,hl with
  | [a,b],_=>exact⟨a,b,rfl⟩
 have k0:Bd a.iv 1000:=key 0 aE;have k1:Bd b.iv 1000:=key 1 aE;by_cases u1:p<0-ke q
 .by_cases u2:t<0-ke r
  .exact Xw p q r t a.iv b.iv h1 h2 h3 h4 k0 k1 c2 c3 u1 u2
  .by_cases u3:0<p+t
   .exact Xz p q r t a.iv b.iv h1 h2 h3 h4 k0 k1 c2 c3 u1 u2 u3
   .exact XA p q r t a.iv b.iv h1 h2 h3 h4 k0 k1 c2 c3 u1 u2 u3
 .by_cases u3:0<p+t
  .exact Xx p q r t a.iv b.iv h1 h2 h3 h4 k0 k1 c2 c3 u1 u3
  .exact Xy p q r t a.iv b.iv h1 h2 h3 h4 k0 k1 c2 c3 u1 u3
open Go.ChangeShapes Go.WideShapes Go.ChangeAt
section
variable {H:Type} {enc:TypeId×Value->H} {W:World} {fuel:Nat} {cs:List Value} {x:DataW H×List MemPlace}
end
def An:Array Value:=#[.int .i8 0,.int .i8 0,.int .i8 0,.int .i8 0,.slice none 0 0]
set_option maxRecDepth 100000 in
def acG(H:Type)(enc:TypeId×Value->H)(W:World)(base:Nat)(args:Array Value)(ds gs:List (DataW H))(before:List MemPlace)
 (j9:∀ (j:Nat) t v,Tryz.f4.params[j]? = some t->args[j]? = some v->Value.okWide prog W .any base t v)
 (hW:DataW.Whole enc prog Tryz.f4.params.toList Rows.orbitEigenvaluesSpec.vars false W args.toList ds gs before) (hL:laidMetH prog Rows.orbitEigenvaluesRow.laid W):
 Calls prog 4 args W λe W'=>∃ v,e = .returned v/\Rows.orbitEigenvaluesSpec.post enc prog Tryz.f4 false true false false W args v W':=by
 have O8:=hW;obtain⟨p,q,sx,hV,rfl,hfz,hnd⟩:=hW;have hA:DataW.TrodAll enc prog W 0 (λ_=>true) true Tryz.f4.params.toList args.toList ds p:=sx;rw[Tryz.params4]at hA j9;obtain⟨v0,vs0,d0,ds0,p0,q0,Bz,rfl,rfl,h0,sx⟩:=trodAll_cons hA;obtain⟨v1,vs1,d1,ds1,p1,q1,rfl,rfl,rfl,h1,xW⟩:=trodAll_cons sx;obtain⟨v2,vs2,d2,ds2,p2,q2,rfl,rfl,rfl,h2,ZH⟩:=trodAll_cons xW;obtain⟨v3,vs3,d3,ds3,p3,q3,rfl,rfl,rfl,h3,ZI⟩:=trodAll_cons ZH;obtain⟨v4,vs4,d4,ds4,p4,q4,rfl,rfl,rfl,h4,ZJ⟩:=trodAll_cons ZI;obtain⟨rfl,rfl,rfl⟩:=trodAll_nil ZJ;obtain rfl:args = #[v0,v1,v2,v3,v4]:=by cases args;simp_all
 obtain⟨rfl,rfl⟩:=trodVars_none hV;obtain⟨x0,rfl,rfl,rfl,b0⟩:=open_int underlying34 (j9 0 34 v0 rfl rfl) h0;obtain⟨x1,rfl,rfl,rfl,b1⟩:=open_int underlying34 (j9 1 34 v1 rfl rfl) h1;obtain⟨x2,rfl,rfl,rfl,b2⟩:=open_int underlying34 (j9 2 34 v2 rfl rfl) h2;obtain⟨x3,rfl,rfl,rfl,b3⟩:=open_int underlying34 (j9 3 34 v3 rfl rfl) h3;obtain⟨a4,len4,cap4,rfl⟩:=okWide_slice underlying26 (j9 4 26 v4 rfl rfl);have ZF:=h4;obtain⟨fuel4,hf4⟩:=h4;clear sx;have PL:∀ x ∈ p4,x.block<W.heap.size:=λx hx=>O8.lt x (by simp[hx])
 obtain⟨x4,w4,P8,g4,r4⟩:=acY hf4 PL;obtain rfl:Value.slice a4 len4 cap4=w4:=by
  have:(Value.slice a4 len4 cap4).cells.toList=[Value.slice a4 len4 cap4]:=rfl;rw[this]at P8;simpa using P8
 have kP:=(abb x0 x1 x2 x3 x4 (Hj b0) (Hj b1) (Hj b2) (Hj b3) g4).run W qI [.int .i8 x0,.int .i8 x1,.int .i8 x2,.int .i8 x3,.slice a4 len4 cap4] (afL rfl hL) (λ_ h=>h.elim) (.cons (.v _) (.cons (.v _) (.cons (.v _) (.cons (.v _) (.cons r4 (.nil _ _ _))))));refine kP.mono λr W' ⟨v,hr,hb,qD⟩=>?_
 obtain rfl:=iB.jX qD;subst hr;refine⟨_,rfl,_,_,_,[],[]++([]++([]++([]++(p4)))),[],O8,?_,?_,rfl,hb.frame _,λh=>by cases h⟩
 .exact trodAll_mk1 (shut_bool underlying4 _)
 .exact ⟨[],_,Below.trod Dv aF (cQ aF) h0 hb (λ_ h=>by cases h),⟨[],_,Below.trod Dv aF (cQ aF) h1 hb (λ_ h=>by cases h),⟨[],_,Below.trod Dv aF (cQ aF) h2 hb (λ_ h=>by cases h),⟨[],_,Below.trod Dv aF (cQ aF) h3 hb (λ_ h=>by cases h),trodAll_mk1 (Below.trod Dv aF (cQ aF) ZF hb PL),rfl⟩,rfl⟩,rfl⟩,rfl⟩
def acJ(os:Os):laidMet prog Rows.orbitEigenvaluesRow.laid ((Kl os An).forCall (λ_ _=>0) ⟨#[],An,[]⟩).memory:=
 laidMet_of_run' 8 aF aF 
def acL(os:Os){H:Type}(enc:TypeId×Value->H):∃ places,DataW.whole enc prog ((Kl os An).forCall (λ_ _=>0) ⟨#[],An,[]⟩).memory Tryz.f4.params.toList Rows.orbitEigenvaluesSpec.vars false An.toList 8=some ([.lit (.int .i8 0),.lit (.int .i8 0),.lit (.int .i8 0),.lit (.int .i8 0),.nil],[],places):=
 ⟨[],aF⟩
set_option maxRecDepth 100000 in
def acI(os:Os)(started:os.Started)(H:Type)(enc:TypeId×Value->H)(F:Stop.Interp):
  ReturnsInHanded {} Tryz.checked os 4 .any ((OpenSpec.ofChange Rows.orbitEigenvaluesSpec).preRow enc prog Tryz.f4 Rows.orbitEigenvaluesRow.domain false Rows.orbitEigenvaluesRow.laid) (((OpenSpec.ofChange Rows.orbitEigenvaluesSpec).at F).post enc prog Tryz.f4 false true false false):=by
 obtain⟨places,hx⟩:=acL os enc;refine returnsInHanded_of_row (C:=Tryz.checked) (s:=OpenSpec.ofChange Rows.orbitEigenvaluesSpec) own started aF func4
  (witness_row_at (enc:=enc) (C:=Tryz.checked) false (Kl os An) An rfl aF aF aF 
   (OpenSpec.preRow_of_cond 8 hx aF (λk hk=>by cases hk) aF (acJ os))) ?_
 intro W base args ds gs before j9 hW _ _ _ hL _ _;exact acG H enc W base args ds gs before j9 hW hL
set_option maxHeartbeats 100000000 in
def acH:joinedFacts prog 4 Tryz.f4 (OpenSpec.ofChange Rows.orbitEigenvaluesSpec).bare Rows.orbitEigenvaluesRow=true:=by
 unfold joinedFacts;simp only[bS]
 and_intros<;>decide +kernel
def acM:Rows.OrbitEigenvaluesSaid:=
 OpenClaim.holds_of_cond 4 Tryz.f4 rfl rfl rfl rfl rfl rfl rfl ⟨rfl,rfl,rfl,rfl,rfl⟩ rfl rfl rfl rfl rfl aF func4 acH
  (cQ aF) (by unfold Func.isWrapper;first|(rw[aZ aL];kernel_rfl)|(rw[aY aL];exact⟨rfl,rfl⟩))
  (λos started H enc _ F=>by rw[OpenClaim.pre_eq_preRow];exact acI os started H enc F)
def acK (f:FuncId) (fn:Func) (hf:Tryz.pinned.checked.prog.funcNamed "flowpipe/flowpipelaw44.OrbitEigenvalues" = some f) (hfn:Tryz.pinned.checked.prog.funcs[f]? = some fn):
 false=Tryz.pinned.checked.prog.looks []/\∀ (j:Nat) t,fn.params[j]? = some t->Tryz.pinned.checked.prog.wantsStandIn t=false:=by
 obtain rfl:f=4:=ahb ((show prog.funcNamed "flowpipe/flowpipelaw44.OrbitEigenvalues" = some 4 by kernel_rfl).symm.trans hf) |>.symm
 obtain rfl:fn=Tryz.f4:=(ahb (func4.symm.trans hfn)).symm;refine⟨aF,λj t ht=>?_⟩;rw[Tryz.params4]at ht;have:t=34\/t=26:=by
  have:=dF ht;simp only[fU,cU,List.not_mem_nil,or_false]at this;rcases this with h|h|h|h|h<;>subst h<;>simp
 rcases this with rfl|rfl
 .exact (show prog.wantsStandIn 34=false by kernel_rfl)
 .exact (show prog.wantsStandIn 26=false by kernel_rfl)
theorem oeigen_card:Rows.OrbitEigenvaluesCardSaid:=
 Claim7.holds_tied_plain_at .later [] _ _ _ _ acM (λ_ h=>by cases h) aF (λ_ h=>by cases h) orbitEigenvalues_row_tie rfl ⟨rfl,rfl⟩ aF rfl acK (Zp YG rfl)
end Go.Proofs.YtkjkcjhacddojaaGreatDoor
