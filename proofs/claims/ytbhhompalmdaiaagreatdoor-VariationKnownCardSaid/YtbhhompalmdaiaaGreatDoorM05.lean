/- The derivative of the exact solutions of two systems with respect to their initial values is in the flow matrix over a tube. -/
import Derived.Test.YtbhhompalmdaiaaGreatDoorM04
import Derived.MapKept
set_option linter.unusedSimpArgs false
set_option linter.unusedVariables false
set_option linter.defProp false
set_option maxHeartbeats 4000000
open Go.Proofs.Tryz
namespace Go.Proofs.YtbhhompalmdaiaaGreatDoor
open Go.RowKit Fp Pu
abbrev qk(a:List (List Iv))(b:List (List Iv))(p):=λi j=>oB (λq=>(a.getD i []).getD q il) (λq=>(b.getD q []).getD j il) p ((a.getD i []).length-1)
abbrev Km(a:List (List Iv))(x)(b:List (List Iv))(k)(p):=oB (λq=>(a.getD x []).getD q il) (λq=>(b.getD q []).getD k il) p ((a.getD x []).length-1)
def R1(r:List Iv)(g:FuncId)(cap:List E)(Y:Nat->Iv)(p:Nat)(c:Nat):PS:=⟨35,true,[(8,.e (iP ((c+1:Nat):Int))),(7,.box 7 0),(6,.box 6 0),(0,.e (iz r)),(1,.e (.fn g cap)),(2,.e (iP p))],[(7,.cells 33 (iZ (oB (λq=>r.getD q il) Y p c))),(6,.cells 33 ar)]⟩
def Wu(a b:List (List Iv))(p:Nat)(x:Nat):PS:=⟨66,true,[(37,.e (iP x)),(36,.e (iP a.length)),(8,.own 34),(4,.box 4 0),(0,.e (iU a)),(2,.e (iP p))],[(34,.jm true 35 33 a.length 7 (jU (jE a.length (λ_=>(b.getD 0 []).length) (qk a b p) x 0)) (kQ (jE a.length (λ_=>(b.getD 0 []).length) (qk a b p) x 0)) .none),(4,.cells 46 [iU b])]⟩
def Wv(a b:List (List Iv))(p:Nat)(x:Nat)(k:Nat):PS:=⟨66,true,[(44,.e (iP k)),(43,.e (iP ((b.getD 0 []).length:Int))),(9,.e (iP x)),(37,.e (iP x)),(36,.e (iP a.length)),(8,.own 34),(4,.box 4 0),(0,.e (iU a)),(2,.e (iP p))],[(34,.jm true 35 33 a.length 7 (jU (jE a.length (λ_=>(b.getD 0 []).length) (qk a b p) x k)) (kQ (jE a.length (λ_=>(b.getD 0 []).length) (qk a b p) x k)) .none),(4,.cells 46 [iU b])]⟩
def acu(r:List Iv)(g:FuncId)(cap:List E)(Y:Nat->Iv)(p:Nat)(hl:r.length<=1000)(h0:0<r.length)(hr:∀ i,i<r.length->(r.getD i il).iu)(hy:∀ i,(Y i).iu)(hg:∀ i,i<r.length->ig g (iP (i:Int)::cap) (ix (Y i)))(iD:8<=p)(iq:p<=512):ig 134 [iz r,.fn g cap,iP p] (ix (oB (λq=>r.getD q il) Y p (r.length-1))):=by
 have w1:=hr 0 h0;have w2:=hy 0;exact ak call134 func134 (af [iX 0 (r.length) aD,.c (hg 0 aD:ig g ((iP 0)::cap) _),.c (qM (r.getD 0 il) (Y 0) p aE aE aD aD),.s (Sp.jP (R1 r g cap Y p) 0 (r.length-1) aD (λc hc amB=>by
    have w1:=hr (c+1) aD;have w2:=hy (c+1);have w3:=Ea (λq=>r.getD q il) Y (aD:1<=p) aD c;have w4:=lX (r.getD (c+1) il) (Y (c+1)) (aD:1<=p) aD;exact iM (ae [tT 19 (((c+1:Nat):Int)<r.length) aD,iX ((c+1:Nat):Int) (r.length) aD,.c (hg (c+1) aD:ig g ((iP ((c+1:Nat):Int))::cap) _),.c (qM (r.getD (c+1) il) (Y (c+1)) p aE aE aD aD),.c (vF (oB (λq=>r.getD q il) Y p c) (iI (r.getD (c+1) il) (Y (c+1)) p) p aE aE aD aD),iC (((c+1:Nat):Int)+1) aD]<|.e (af [.b 7 (.jb rfl:Bx.le (.cells 33 (iZ (jL (oB (λq=>r.getD q il) Y p c) (iI (r.getD (c+1) il) (Y (c+1)) p) p))) (.cells 33 (iZ (oB (λq=>r.getD q il) Y p (c+1)))))])) aG)
  (λhc=>by
    exact iM (af [tF 19 ((((r.length-1)+1:Nat):Int)<r.length) aD]) aG) aK:jO 3 f134 (R1 r g cap Y p 0) (.exit 0) ⟨35,true,[(7,.box 7 0),(6,.box 6 0)],[(7,.cells 33 (iZ (oB (λq=>r.getD q il) Y p (r.length-1)))),(6,.cells 33 ar)]⟩) (af [.o 8 (an 1 ((0+1:Nat):Int) aS),.b 7 (.jb rfl:Bx.le (.cells 33 (iZ (iI (r.getD 0 il) (Y 0) p))) (.cells 33 (iZ (oB (λq=>r.getD q il) Y p 0))))])]) 
def ag1(q j:Nat)(b:List (List Iv))(hq:q<b.length)(hj:j<(b.getD q []).length):ig 135 [iP q,(.jC 1 λj_=>[iU b].getD j_ .any),(.jC 1 λj_=>[iP j].getD j_ .any)] (ix ((b.getD q []).getD j il)):=
 ak call135 func135 (af [iX (q:Int) (b.length) aD,iX (j:Int) ((b.getD q []).length) aD]) 
def Wh(a b:List (List Iv))(p:Nat)(n k c:Nat)(ga:ke a n k)(gb:ke b k c)(iD:8<=p)(iq:p<=512):ig 68 [iU a,iU b,iP p] (.iB [iU (re a b p),iP 0]):=by
 have ra:=ga.jm;have rb:=gb.jm;have n1:=ga.n1;have n8:=ga.n8;have kk1:=ga.k1;have kk8:=ga.k8;have Rj:=gb.k8;have la:=ga.mF (aD:0<n);have lb:=gb.mF (aD:0<k);have ew:qm a.length (λ_=>(b.getD 0 []).length) (λi j=>oB (λq=>(a.getD i []).getD q il) (λq=>(b.getD q []).getD j il) p ((a.getD i []).length-1))=re a b p:=by
  rw[<-ZF (n:=n) (k:=k-1) (c:=c) (a:=a) (b:=b) (p:=p) ra (λi hi=>by rw[ga.mF hi];omega) aD lb,ra,lb];unfold qm;apply ev;intro i hi;have e:=ga.mF (cz.1 hi);simp only[e]
 exact ak call68 func68 (ae [ag [iU a] (xS _ _ _ aE),ag [iU b] (xS _ _ _ aE),ag [iP p] (C8 _),ah 22 (kT (p:Int)) (oM.2 ⟨aD,aD⟩),iX 0 (a.length) aD,ai 31 (((a.getD 0 []).length:Int) != (b.length:Int)) (sD aD),.a (aD:0<=((a.length:Int):Int)/\((a.length:Int):Int)<=((a.length:Int):Int)),.a (aD:((24:Nat):Int)*(a.length:Int)<=281474976710656/\((a.length:Int):Int)<=9223372036854775807),.s (Sp.jP (Wu a b p) 0 a.length aD (λx hx lp=>by
    have lax:=ga.mF (aD:x<n);exact iM (ae [tT 38 ((x:Int)<a.length) aD,iX 0 (b.length) aD,.s (Sp.jP (Wv a b p x) 0 ((b.getD 0 []).length) aD (λk hk qI=>by
    have hle:jU (jE a.length (λ_=>(b.getD 0 []).length) (λi j=>oB (λq=>(a.getD i []).getD q il) (λq=>(b.getD q []).getD j il) p ((a.getD i []).length-1)) x k) x=k:=Ny aD ;have h1:=oC (oB (λq=>(a.getD x []).getD q il) (λq=>(b.getD q []).getD k il) p ((a.getD x []).length-1));exact iM (ae [tT 45 ((k:Int)<((b.getD 0 []).length:Int)) aD,iX (x:Int) (a.length) aD,.a (aD:x<a.length),iX (x:Int) (a.length) aD,.c (acu _ 135 _ (λq=>(b.getD q []).getD k il) p aD aD (λq hq=>ga.qP aD (by rw[lax]at hq;exact hq)) (λq=>St gb q k) (λq hq=>ag1 q k b aD (by rw[gb.mF aD];omega)) aD aD:ig 134 [iz (a.getD x []),.fn 135 [(.jC 1 λj_=>[iU b].getD j_ .any),(.jC 1 λj_=>[iP k].getD j_ .any)],iP p] _),.o 60 (.e (mr _):aj (.sl true 1 7 λi_ j_=>(iZ (Km a x b k p)).getD (i_*7+j_) (.v (.bool false))) (iz [Km a x b k p])),.a (aD:x<a.length),.a (aD:((jU (jE a.length (λ_=>(b.getD 0 []).length) (λi j=>oB (λq=>(a.getD i []).getD q il) (λq=>(b.getD q []).getD j il) p ((a.getD i []).length-1)) x k)) x+[oB (λq=>(a.getD x []).getD q il) (λq=>(b.getD q []).getD k il) p ((a.getD x []).length-1)].length)*88<=140737488355328),
     iX (x:Int) (a.length) aD,.a (rfl:x=x),.a (rfl:x=x),.a (aD:x<a.length),iC ((k:Int)+1) aD]<|.e (af [.b 34 (JT rfl aD aD rfl:Bx.le (.jm true 35 33 a.length 7 (λq=>if q=x then(jU (jE a.length (λ_=>(b.getD 0 []).length) (qk a b p) x k)) q+[Km a x b k p].length else(jU (jE a.length (λ_=>(b.getD 0 []).length) (qk a b p) x k)) q) (λq i j=>if q=x then(if i<(jU (jE a.length (λ_=>(b.getD 0 []).length) (qk a b p) x k)) q then(kQ (jE a.length (λ_=>(b.getD 0 []).length) (qk a b p) x k)) q i j else(E.jH (iz [Km a x b k p])) (i-(jU (jE a.length (λ_=>(b.getD 0 []).length) (qk a b p) x k)) q) j)else(kQ (jE a.length (λ_=>(b.getD 0 []).length) (qk a b p) x k)) q i j) .none) (.jm true 35 33 a.length 7 (jU (jE a.length (λ_=>(b.getD 0 []).length) (qk a b p) x (k+1))) (kQ (jE a.length (λ_=>(b.getD 0 []).length) (qk a b p) x (k+1))) .none))])) aG)
  (λhk=>by
    exact iM (af [tF 45 (((b.getD 0 []).length:Int)<((b.getD 0 []).length:Int)) aD]) aG) aK:jO 12 Tryz.f68 (Wv a b p x 0) (.exit 3) ⟨66,true,[(37,.e (iP x)),(36,.e (iP a.length)),(8,.own 34),(4,.box 4 0),(0,.e (iU a)),(2,.e (iP p))],[(34,.jm true 35 33 a.length 7 (jU (jE a.length (λ_=>(b.getD 0 []).length) (qk a b p) x ((b.getD 0 []).length))) (kQ (jE a.length (λ_=>(b.getD 0 []).length) (qk a b p) x ((b.getD 0 []).length))) .none),(4,.cells 46 [iU b])]⟩) .nil,
     iC ((x:Int)+1) aD]<|.e (af [.b 34 (Pa rfl:Bx.le (.jm true 35 33 a.length 7 (jU (jE a.length (λ_=>(b.getD 0 []).length) (qk a b p) x ((b.getD 0 []).length))) (kQ (jE a.length (λ_=>(b.getD 0 []).length) (qk a b p) x ((b.getD 0 []).length))) .none) (.jm true 35 33 a.length 7 (jU (jE a.length (λ_=>(b.getD 0 []).length) (qk a b p) (x+1) 0)) (kQ (jE a.length (λ_=>(b.getD 0 []).length) (qk a b p) (x+1) 0)) .none))])) aG)
  (λhx=>by
    exact iM (af [tF 38 ((a.length:Int)<a.length) aD]) aG) aK:jO 9 Tryz.f68 (Wu a b p 0) (.exit 1) ⟨66,true,[(8,.own 34)],[(34,.jm true 35 33 a.length 7 (jU (jE a.length (λ_=>(b.getD 0 []).length) (qk a b p) a.length 0)) (kQ (jE a.length (λ_=>(b.getD 0 []).length) (qk a b p) a.length 0)) .none)]⟩) (af [.b 34 (O9 rfl:Bx.le (.jm true 35 33 a.length 7 (λ_=>0) (λ_ _ _=>.any) .none) (.jm true 35 33 a.length 7 (jU (jE a.length (λ_=>(b.getD 0 []).length) (qk a b p) 0 0)) (kQ (jE a.length (λ_=>(b.getD 0 []).length) (qk a b p) 0 0)) .none))])]<|rR (.iB [iU (re a b p),iP 0]) (by
      rw[<-ew,<-KP];exact .iB (.cons (I8 (KQ _ _ _ _ _).symm) (.cons (.refl _) .nil)):E.le (.iB [(.sl true a.length 1 λk_ _=>.sl true ((jU (jE a.length (λ_=>(b.getD 0 []).length) (λi j=>oB (λq=>(a.getD i []).getD q il) (λq=>(b.getD q []).getD j il) p ((a.getD i []).length-1)) a.length 0)) k_) 7 ((kQ (jE a.length (λ_=>(b.getD 0 []).length) (λi j=>oB (λq=>(a.getD i []).getD q il) (λq=>(b.getD q []).getD j il) p ((a.getD i []).length-1)) a.length 0)) k_)),iP 0]) (.iB [iU (re a b p),iP 0]))) 
def akx(i j:Nat)(x y:Iv)(p:Nat)(hx:x.iu)(hy:y.iu)(iD:8<=p)(iq:p<=512):ig 137 [iP i,iP j,ix y,(.jC 7 λj_=>[bP x.lo.neg,iw (ij x.lo.m),iP x.lo.e,bP x.hi.neg,iw (ij x.hi.m),iP x.hi.e,bP x.all].getD j_ .any),(.jC 1 λj_=>[iP p].getD j_ .any)] (ix (iI x y p)):=
 ak call137 func137 (af [.c (qM x y p aE aE aD aD)]) 
def Wj(a:List (List Iv))(x:Iv)(n k p:Nat)(ga:ke a n k)(hx:x.iu)(iD:8<=p)(iq:p<=512):ig 69 [iU a,ix x,iP p] (iU (s8 a x p)):=by
 have ra:=ga.jm;have n8:=ga.n8;exact ak call69 func69 (ae [ag [iU a] (xS _ _ _ aE),.c (si x aE),ag [iP p] (C8 _),ah 17 (kT (p:Int)) (oM.2 ⟨aD,aD⟩),.c (Wf a 137 [(.jC 7 λj_=>[bP x.lo.neg,iw (ij x.lo.m),iP x.lo.e,bP x.hi.neg,iw (ij x.hi.m),iP x.hi.e,bP x.all].getD j_ .any),(.jC 1 λj_=>[iP p].getD j_ .any)] (λi j=>iI x ((a.getD i []).getD j il) p) aD (λi=>bJ (ga.Fh i) aF) (λi j hi hj=>akx _ _ _ _ _ hx (ga.qP aD (by rw[ga.mF aD]at hj;exact hj)) iD iq))]<|rQ (iU (qm a.length (λq=>(a.getD q []).length) (λi j=>iI x ((a.getD i []).getD j il) p))) (iU (s8 a x p)) (by rw[ZG])) 
def Fp.ze:Dy:=⟨false,1,0⟩
def ahW:ze.iu:=by have:=yW 1 aF;rw[wT]at this;exact this
def Vl(n:Nat)(x:Nat):PS:=⟨42,true,[(17,.e (iP x)),(16,.e (iP n)),(3,.own 14),(0,.e (iP n))],[(14,.jm true 35 33 n 7 (jU (jE n (λ_=>n) (λi j=>iV (if i=j then⟨false,1,0⟩else iQ)) x 0)) (kQ (jE n (λ_=>n) (λi j=>iV (if i=j then⟨false,1,0⟩else iQ)) x 0)) .none)]⟩
def Vm(n x:Nat)(k:Nat):PS:=⟨42,true,[(21,.e (iP k)),(20,.e (iP n)),(4,.e (iP x)),(17,.e (iP x)),(16,.e (iP n)),(3,.own 14),(0,.e (iP n))],[(14,.jm true 35 33 n 7 (jU (jE n (λ_=>n) (λi j=>iV (if i=j then⟨false,1,0⟩else iQ)) x k)) (kQ (jE n (λ_=>n) (λi j=>iV (if i=j then⟨false,1,0⟩else iQ)) x k)) .none)]⟩
def Cu(n:Nat)(h:n<4294967296):ig 97 [iP n] (im (jY (n:Int))):=by
 have ok2:iK [n%4294967296,n/4294967296%4294967296]:=iK.cons (bC _ aF) (iK.cons (bC _ aF) iK.nil);exact ak call97 func97 (ae [.o 5 (.int (oj _ aD):aj (.v (.int .u64 (IntKind.u64.wrap (n:Int)))) (.v (.int .u64 (n:Int)))),tF 7 ((n:Int)<0) aD,tF 11 ((n:Int)<0) aD,.o 13 (.int (sr _):aj (.v (.int .u32 (IntKind.u32.wrap (n:Int)))) (.v (.int .u32 ((n%4294967296:Nat):Int)))),.a (aD:0<=(32:Int)/\(32:Int)<=((64:Nat):Int)),.o 15 (.int (zo _):aj (.v (.int .u64 ((n:Int)/2^32))) (.v (.int .u64 ((n/4294967296:Nat):Int)))),.o 16 (.int (sr _):aj (.v (.int .u32 (IntKind.u32.wrap ((n/4294967296:Nat):Int)))) (.v (.int .u32 (((n/4294967296)%4294967296:Nat):Int)))),.o 17 (.e (Zv _ _):aj (.sl false 2 1 λi_ j_=>[.v (.int .u32 ((n%4294967296:Nat):Int)),.v (.int .u32 (((n/4294967296)%4294967296:Nat):Int))].getD (i_*1+j_) (.v (.bool false))) (iw [n%4294967296,(n/4294967296)%4294967296])),ag [bP false,iw [n%4294967296,(n/4294967296)%4294967296],iP 0] (Sb _ _ _ ok2 aJ aF aF)]<|rQ (im (canon false (val [n%4294967296,(n/4294967296)%4294967296]) 0)) (im (jY (n:Int))) (by rw[ZC,(aD:n%4294967296+4294967296*(n/4294967296%4294967296)=n),wT])) 
def xV(n:Nat)(h:n<4294967296):ig 71 [iP n] (ix (iN (n:Int))):=by
 have v:=yW n h;exact ak call71 func71 (af [ag [iP n] (Cu _ aD),.c (xM (jY (n:Int)) aE)]) 
def Wg(n:Nat)(h1:1<=n)(h8:n<=8):ig 67 [iP n] (iU (xJ n)):=by
 have v1:=ahW;have v0:=qn;have int1:ig 97 [iP 1] (im ze):=Cu 1 aF;have int0:ig 97 [iP 0] (im iQ):=Cu 0 aF;have ew:qm n (λ_=>n) (λi j=>iV (if i=j then⟨false,1,0⟩else iQ))=xJ n:=rfl;exact ak call67 func67 (ae [tF 8 ((n:Int)<1) aD,tF 11 (8<(n:Int)) aD,.a (aD:0<=((n:Int):Int)/\((n:Int):Int)<=((n:Int):Int)),.a (aD:((24:Nat):Int)*(n:Int)<=281474976710656/\((n:Int):Int)<=9223372036854775807),.s (Sp.jP (Vl n) 0 n aD (λx hx lp=>by
    exact iM (ae [tT 18 ((x:Int)<n) aD,.s (Sp.jP (Vm n x) 0 n aD (λk hk qI=>by
    have hle:jU (jE n (λ_=>n) (λi j=>iV (if i=j then⟨false,1,0⟩else iQ)) x k) x=k:=Ny aD ;by_cases c1:x=k
    .have h1:=oC (iV ze);exact iM (ae [tT 22 ((k:Int)<n) aD,ah 26 ((x:Int)==k) (FG c1),iX (x:Int) n aD,.a (aD:x<n),ag [iP 1] int1,.c (xM ze aE),.o 36 (.e (mr _):aj (.sl true 1 7 λi_ j_=>(iZ (iV ze)).getD (i_*7+j_) (.v (.bool false))) (iz [iV ze])),.a (aD:x<n),.a (aD:((jU (jE n (λ_=>n) (λi j=>iV (if i=j then⟨false,1,0⟩else iQ)) x k)) x+[iV ze].length)*88<=140737488355328),iX (x:Int) n aD,.a (rfl:x=x),.a (rfl:x=x),.a (aD:x<n),iC ((k:Int)+1) aD]<|.e (af [.b 14 (JT rfl aD aD (by rw[bn c1];rfl):Bx.le (.jm true 35 33 n 7 (λq=>if q=x then(jU (jE n (λ_=>n) (λi j=>iV (if i=j then⟨false,1,0⟩else iQ)) x k)) q+[iV ze].length else(jU (jE n (λ_=>n) (λi j=>iV (if i=j then⟨false,1,0⟩else iQ)) x k)) q) (λq i j=>if q=x then(if i<(jU (jE n (λ_=>n) (λi j=>iV (if i=j then⟨false,1,0⟩else iQ)) x k)) q then(kQ (jE n (λ_=>n) (λi j=>iV (if i=j then⟨false,1,0⟩else iQ)) x k)) q i j else(E.jH (iz [iV ze])) (i-(jU (jE n (λ_=>n) (λi j=>iV (if i=j then⟨false,1,0⟩else iQ)) x k)) q) j)else(kQ (jE n (λ_=>n) (λi j=>iV (if i=j then⟨false,1,0⟩else iQ)) x k)) q i j) .none) (.jm true 35 33 n 7 (jU (jE n (λ_=>n) (λi j=>iV (if i=j then⟨false,1,0⟩else iQ)) x (k+1))) (kQ (jE n (λ_=>n) (λi j=>iV (if i=j then⟨false,1,0⟩else iQ)) x (k+1))) .none))])) aG 
    .have h1:=oC (iV iQ);exact iM (ae [tT 22 ((k:Int)<n) aD,ai 26 ((x:Int)==k) (WA c1),iX (x:Int) n aD,.a (aD:x<n),ag [iP 0] int0,.c (xM iQ aE),.o 36 (.e (mr _):aj (.sl true 1 7 λi_ j_=>(iZ (iV iQ)).getD (i_*7+j_) (.v (.bool false))) (iz [iV iQ])),.a (aD:x<n),.a (aD:((jU (jE n (λ_=>n) (λi j=>iV (if i=j then⟨false,1,0⟩else iQ)) x k)) x+[iV iQ].length)*88<=140737488355328),iX (x:Int) n aD,.a (rfl:x=x),.a (rfl:x=x),.a (aD:x<n),iC ((k:Int)+1) aD]<|.e (af [.b 14 (JT rfl aD aD (by rw[bl c1]):Bx.le (.jm true 35 33 n 7 (λq=>if q=x then(jU (jE n (λ_=>n) (λi j=>iV (if i=j then⟨false,1,0⟩else iQ)) x k)) q+[iV iQ].length else(jU (jE n (λ_=>n) (λi j=>iV (if i=j then⟨false,1,0⟩else iQ)) x k)) q) (λq i j=>if q=x then(if i<(jU (jE n (λ_=>n) (λi j=>iV (if i=j then⟨false,1,0⟩else iQ)) x k)) q then(kQ (jE n (λ_=>n) (λi j=>iV (if i=j then⟨false,1,0⟩else iQ)) x k)) q i j else(E.jH (iz [iV iQ])) (i-(jU (jE n (λ_=>n) (λi j=>iV (if i=j then⟨false,1,0⟩else iQ)) x k)) q) j)else(kQ (jE n (λ_=>n) (λi j=>iV (if i=j then⟨false,1,0⟩else iQ)) x k)) q i j) .none) (.jm true 35 33 n 7 (jU (jE n (λ_=>n) (λi j=>iV (if i=j then⟨false,1,0⟩else iQ)) x (k+1))) (kQ (jE n (λ_=>n) (λi j=>iV (if i=j then⟨false,1,0⟩else iQ)) x (k+1))) .none))])) aG)
  (λhk=>by
    exact iM (af [tF 22 ((n:Int)<n) aD]) aG) aK:jO 8 Tryz.f67 (Vm n x 0) (.exit 2) ⟨42,true,[(17,.e (iP x)),(16,.e (iP n)),(3,.own 14),(0,.e (iP n))],[(14,.jm true 35 33 n 7 (jU (jE n (λ_=>n) (λi j=>iV (if i=j then⟨false,1,0⟩else iQ)) x n)) (kQ (jE n (λ_=>n) (λi j=>iV (if i=j then⟨false,1,0⟩else iQ)) x n)) .none)]⟩) .nil,
     iC ((x:Int)+1) aD]<|.e (af [.b 14 (Pa rfl:Bx.le (.jm true 35 33 n 7 (jU (jE n (λ_=>n) (λi j=>iV (if i=j then⟨false,1,0⟩else iQ)) x n)) (kQ (jE n (λ_=>n) (λi j=>iV (if i=j then⟨false,1,0⟩else iQ)) x n)) .none) (.jm true 35 33 n 7 (jU (jE n (λ_=>n) (λi j=>iV (if i=j then⟨false,1,0⟩else iQ)) (x+1) 0)) (kQ (jE n (λ_=>n) (λi j=>iV (if i=j then⟨false,1,0⟩else iQ)) (x+1) 0)) .none))])) aG)
  (λhx=>by
    exact iM (af [tF 18 ((n:Int)<n) aD]) aG) aK:jO 5 Tryz.f67 (Vl n 0) (.exit 0) ⟨42,true,[(3,.own 14)],[(14,.jm true 35 33 n 7 (jU (jE n (λ_=>n) (λi j=>iV (if i=j then⟨false,1,0⟩else iQ)) n 0)) (kQ (jE n (λ_=>n) (λi j=>iV (if i=j then⟨false,1,0⟩else iQ)) n 0)) .none)]⟩) (af [.b 14 (O9 rfl:Bx.le (.jm true 35 33 n 7 (λ_=>0) (λ_ _ _=>.any) .none) (.jm true 35 33 n 7 (jU (jE n (λ_=>n) (λi j=>iV (if i=j then⟨false,1,0⟩else iQ)) 0 0)) (kQ (jE n (λ_=>n) (λi j=>iV (if i=j then⟨false,1,0⟩else iQ)) 0 0)) .none))])]<|rR (iU (xJ n)) (by
      rw[<-ew,<-KP];exact I8 (KQ _ _ _ _ _).symm:E.le (.sl true n 1 λk_ _=>.sl true ((jU (jE n (λ_=>n) (λi j=>iV (if i=j then⟨false,1,0⟩else iQ)) n 0)) k_) 7 ((kQ (jE n (λ_=>n) (λi j=>iV (if i=j then⟨false,1,0⟩else iQ)) n 0)) k_)) (iU (xJ n)))) 
abbrev rK(m:List (List Iv))(x)(p):=kE (m.getD x []) p ((m.getD x []).length)
abbrev B7(m:List (List Iv))(x)(k):=kO ((m.getD x []).getD k il)
abbrev DI(m:List (List Iv))(x)(p)(k):=jc (jG (iJ (kE (m.getD x []) p k) (B7 m x k)) p true)
abbrev PK:E:=.agg aq
def WT(m:List (List Iv))(p:Nat)(x:Nat):PS:=⟨64,true,[(27,.e (iP x)),(26,.e (iP m.length)),(25,.e (iU m)),(6,.box 6 0),(4,.box 4 0),(1,.e (iP p))],[(6,.cells 28 (jc (kJ m p x))),(4,.cells 28 aq)]⟩
def vO(m:List (List Iv))(p x:Nat)(k:Nat):PS:=⟨64,true,[(33,.e (iP k)),(32,.e (iP ((m.getD x []).length:Int))),(31,.e (iz (m.getD x []))),(9,.box 9 0),(27,.e (iP x)),(26,.e (iP m.length)),(25,.e (iU m)),(6,.box 6 0),(4,.box 4 0),(1,.e (iP p))],[(9,.cells 28 (jc (kE (m.getD x []) p k))),(6,.cells 28 (jc (kJ m p x))),(4,.cells 28 aq)]⟩
def WO(m:List (List Iv))(p N:Nat)(x:Nat):PS:=⟨64,true,[(27,.e (iP x)),(26,.e (iP m.length)),(25,.e (iU m)),(6,.box 6 0),(4,.box 4 0),(1,.e (iP p))],[(6,.cells 28 (jc (kJ m p x))),(4,.cells 28 aq)]⟩
def WQ(m:List (List Iv))(p N K:Nat)(k:Nat):PS:=⟨64,true,[(33,.e (iP k)),(32,.e (iP ((m.getD N []).length:Int))),(31,.e (iz (m.getD N []))),(9,.box 9 0),(27,.e (iP N)),(26,.e (iP m.length)),(25,.e (iU m)),(6,.box 6 0),(4,.box 4 0),(1,.e (iP p))],[(9,.cells 28 (jc (kE (m.getD N []) p k))),(6,.cells 28 (jc (kJ m p N))),(4,.cells 28 aq)]⟩
def WR(m:List (List Iv))(p N:Nat)(x:Nat):PS:=⟨64,true,[(27,.e (iP x)),(26,.e (iP m.length)),(25,.e (iU m)),(6,.box 6 0),(4,.box 4 0),(1,.e (iP p))],[(6,.cells 28 (jc (kJ m p x))),(4,.cells 28 aq)]⟩
def WS(m:List (List Iv))(p N K:Nat)(k:Nat):PS:=⟨64,true,[(33,.e (iP k)),(32,.e (iP ((m.getD N []).length:Int))),(31,.e (iz (m.getD N []))),(9,.box 9 0),(27,.e (iP N)),(26,.e (iP m.length)),(25,.e (iU m)),(6,.box 6 0),(4,.box 4 0),(1,.e (iP p))],[(9,.cells 28 (jc (kE (m.getD N []) p k))),(6,.cells 28 (jc (kJ m p N))),(4,.cells 28 aq)]⟩
def afT(x:Iv)(hx:x.iu)(kC:x.all=true):ig 215 [ix x] (.iB [im iQ,bP false]):=
 ak call215 func215 (af [.o 5 (.e (mr _):aj (.sl true 1 7 λi_ j_=>(iZ x).getD (i_*7+j_) (.v (.bool false))) (iz [x])),ag [iz [x]] (sf _ aE),ai 6 (!x.all) (by rw[kC];rfl),.o 8 (.e tc:aj PK (im iQ))]) 
def ahO(m:List (List Iv))(n c p:Nat)(ga:ke m n c)(iD:8<=p)(iq:p<=512)(hg:∀ x,x<m.length->∀ k,k<(m.getD x []).length->oJ (m.getD x []) p k):ig 128 [iU m,iP p] (.iB [im (kJ m p m.length),bP true]):=by
 have ra:=ga.jm;have n8:=ga.n8;have c8:=ga.k8;exact ak call128 func128 (af [ag [iU m] (xS _ _ _ aE),ag [iP p] (C8 _),ah 21 (kT (p:Int)) (oM.2 ⟨aD,aD⟩),.s (Sp.jP (WT m p) 0 m.length aD (λx hx lp=>by
    have lx:=ga.mF (aD:x<n);have u1:=sm (m.getD x []) (aD:1<=p) aD (m.getD x []).length;have u2:=As m (aD:1<=p) aD x;by_cases c1:0<jA (kE (m.getD x []) p ((m.getD x []).length)) (kJ m p x)
    .exact iM (ae [tT 28 ((x:Int)<m.length) aD,iX (x:Int) (m.length) aD,.s (Sp.jP (vO m p x) 0 ((m.getD x []).length) aD (λk hk qI=>by
    have gg:=(hg x aD) k aD;have v1:=sm (m.getD x []) (aD:1<=p) aD k;have v2:=ga.qP (aD:x<n) (aD:k<c);have gga:=gg.all;have v3:=vI v2.kn.1 v2.kn.2;exact iM (ae [tT 34 ((k:Int)<((m.getD x []).length:Int)) aD,iX (k:Int) ((m.getD x []).length) aD,.c (xL ((m.getD x []).getD k il) aE gga),.c (xf (kE (m.getD x []) p k) (B7 m x k) p aE aE aD aD),ai 53 ((jZ (iJ (kE (m.getD x []) p k) (kO ((m.getD x []).getD k il))) p true) != 0) (by rw[gg.yB];rfl),iC ((k:Int)+1) aD]<|.e (af [.b 9 (.jb rfl:Bx.le (.cells 28 (DI m x p k)) (.cells 28 (jc (kE (m.getD x []) p (k+1)))))])) aG)
  (λhk=>by
    exact iM (af [tF 34 (((m.getD x []).length:Int)<((m.getD x []).length:Int)) aD]) aG) aK:jO 9 f128 (vO m p x 0) (.exit 2) ⟨64,true,[(9,.box 9 0),(27,.e (iP x)),(26,.e (iP m.length)),(25,.e (iU m)),(6,.box 6 0),(4,.box 4 0),(1,.e (iP p))],[(9,.cells 28 (jc (rK m x p))),(6,.cells 28 (jc (kJ m p x))),(4,.cells 28 aq)]⟩) (af [.b 9 (.cells (λ_=>rfl) xn:Bx.le (.cells 28 aq) (.cells 28 (jc (kE (m.getD x []) p 0))))]),ag [im (rK m x p),im (kJ m p x)] (nK _ _ aE aE),tB 60 (bq c1),iC ((x:Int)+1) aD]<|.e (af [.b 6 (.jb (by rw[show kJ m p (x+1)=(rK m x p)from bn c1]):Bx.le (.cells 28 (jc (rK m x p))) (.cells 28 (jc (kJ m p (x+1)))))])) aG 
    .exact iM (ae [tT 28 ((x:Int)<m.length) aD,iX (x:Int) (m.length) aD,.s (Sp.jP (vO m p x) 0 ((m.getD x []).length) aD (λk hk qI=>by
    have gg:=(hg x aD) k aD;have v1:=sm (m.getD x []) (aD:1<=p) aD k;have v2:=ga.qP (aD:x<n) (aD:k<c);have gga:=gg.all;have v3:=vI v2.kn.1 v2.kn.2;exact iM (ae [tT 34 ((k:Int)<((m.getD x []).length:Int)) aD,iX (k:Int) ((m.getD x []).length) aD,.c (xL ((m.getD x []).getD k il) aE gga),.c (xf (kE (m.getD x []) p k) (B7 m x k) p aE aE aD aD),ai 53 ((jZ (iJ (kE (m.getD x []) p k) (kO ((m.getD x []).getD k il))) p true) != 0) (by rw[gg.yB];rfl),iC ((k:Int)+1) aD]<|.e (af [.b 9 (.jb rfl:Bx.le (.cells 28 (DI m x p k)) (.cells 28 (jc (kE (m.getD x []) p (k+1)))))])) aG)
  (λhk=>by
    exact iM (af [tF 34 (((m.getD x []).length:Int)<((m.getD x []).length:Int)) aD]) aG) aK:jO 9 f128 (vO m p x 0) (.exit 2) ⟨64,true,[(9,.box 9 0),(27,.e (iP x)),(26,.e (iP m.length)),(25,.e (iU m)),(6,.box 6 0),(4,.box 4 0),(1,.e (iP p))],[(9,.cells 28 (jc (rK m x p))),(6,.cells 28 (jc (kJ m p x))),(4,.cells 28 aq)]⟩) (af [.b 9 (.cells (λ_=>rfl) xn:Bx.le (.cells 28 aq) (.cells 28 (jc (kE (m.getD x []) p 0))))]),ag [im (rK m x p),im (kJ m p x)] (nK _ _ aE aE),tB 60 (bt c1),iC ((x:Int)+1) aD]<|.e (af [.b 6 (.jb (by rw[show kJ m p (x+1)=(kJ m p x)from bl c1]):Bx.le (.cells 28 (jc (kJ m p x))) (.cells 28 (jc (kJ m p (x+1)))))])) aG)
  (λhx=>by
    exact iM (af [tF 28 ((m.length:Int)<m.length) aD]) aG) aK:jO 5 f128 (WT m p 0) (.exit 0) ⟨64,true,[(6,.box 6 0),(4,.box 4 0)],[(6,.cells 28 (jc (kJ m p m.length))),(4,.cells 28 aq)]⟩) (af [.b 6 (.cells (λ_=>rfl) xn:Bx.le (.cells 28 aq) (.cells 28 (jc (kJ m p 0))))])]) 
def ahK(m:List (List Iv))(n c p:Nat)(ga:ke m n c)(iD:8<=p)(iq:p<=512)(N K:Nat)(hN:N<m.length)(hK:K<(m.getD N []).length)(hg:∀ x,x<N->∀ k,k<(m.getD x []).length->oJ (m.getD x []) p k)(MG:∀ k,k<K->oJ (m.getD N []) p k)(tq:((m.getD N []).getD K il).all=true):ig 128 [iU m,iP p] (.iB [im iQ,bP false]):=by
 have ra:=ga.jm;have n8:=ga.n8;have c8:=ga.k8;exact ak call128 func128 (af [ag [iU m] (xS _ _ _ aE),ag [iP p] (C8 _),ah 21 (kT (p:Int)) (oM.2 ⟨aD,aD⟩),.s (Sp.jP (WO m p N) 0 N aD (λx hx lp=>by
    have lx:=ga.mF (aD:x<n);have u1:=sm (m.getD x []) (aD:1<=p) aD (m.getD x []).length;have u2:=As m (aD:1<=p) aD x;by_cases c1:0<jA (kE (m.getD x []) p ((m.getD x []).length)) (kJ m p x)
    .exact iM (ae [tT 28 ((x:Int)<m.length) aD,iX (x:Int) (m.length) aD,.s (Sp.jP (vO m p x) 0 ((m.getD x []).length) aD (λk hk qI=>by
    have gg:=(hg x aD) k aD;have v1:=sm (m.getD x []) (aD:1<=p) aD k;have v2:=ga.qP (aD:x<n) (aD:k<c);have gga:=gg.all;have v3:=vI v2.kn.1 v2.kn.2;exact iM (ae [tT 34 ((k:Int)<((m.getD x []).length:Int)) aD,iX (k:Int) ((m.getD x []).length) aD,.c (xL ((m.getD x []).getD k il) aE gga),.c (xf (kE (m.getD x []) p k) (B7 m x k) p aE aE aD aD),ai 53 ((jZ (iJ (kE (m.getD x []) p k) (kO ((m.getD x []).getD k il))) p true) != 0) (by rw[gg.yB];rfl),iC ((k:Int)+1) aD]<|.e (af [.b 9 (.jb rfl:Bx.le (.cells 28 (DI m x p k)) (.cells 28 (jc (kE (m.getD x []) p (k+1)))))])) aG)
  (λhk=>by
    exact iM (af [tF 34 (((m.getD x []).length:Int)<((m.getD x []).length:Int)) aD]) aG) aK:jO 9 f128 (vO m p x 0) (.exit 2) ⟨64,true,[(9,.box 9 0),(27,.e (iP x)),(26,.e (iP m.length)),(25,.e (iU m)),(6,.box 6 0),(4,.box 4 0),(1,.e (iP p))],[(9,.cells 28 (jc (rK m x p))),(6,.cells 28 (jc (kJ m p x))),(4,.cells 28 aq)]⟩) (af [.b 9 (.cells (λ_=>rfl) xn:Bx.le (.cells 28 aq) (.cells 28 (jc (kE (m.getD x []) p 0))))]),ag [im (rK m x p),im (kJ m p x)] (nK _ _ aE aE),tB 60 (bq c1),iC ((x:Int)+1) aD]<|.e (af [.b 6 (.jb (by rw[show kJ m p (x+1)=(rK m x p)from bn c1]):Bx.le (.cells 28 (jc (rK m x p))) (.cells 28 (jc (kJ m p (x+1)))))])) aG 
    .exact iM (ae [tT 28 ((x:Int)<m.length) aD,iX (x:Int) (m.length) aD,.s (Sp.jP (vO m p x) 0 ((m.getD x []).length) aD (λk hk qI=>by
    have gg:=(hg x aD) k aD;have v1:=sm (m.getD x []) (aD:1<=p) aD k;have v2:=ga.qP (aD:x<n) (aD:k<c);have gga:=gg.all;have v3:=vI v2.kn.1 v2.kn.2;exact iM (ae [tT 34 ((k:Int)<((m.getD x []).length:Int)) aD,iX (k:Int) ((m.getD x []).length) aD,.c (xL ((m.getD x []).getD k il) aE gga),.c (xf (kE (m.getD x []) p k) (B7 m x k) p aE aE aD aD),ai 53 ((jZ (iJ (kE (m.getD x []) p k) (kO ((m.getD x []).getD k il))) p true) != 0) (by rw[gg.yB];rfl),iC ((k:Int)+1) aD]<|.e (af [.b 9 (.jb rfl:Bx.le (.cells 28 (DI m x p k)) (.cells 28 (jc (kE (m.getD x []) p (k+1)))))])) aG)
  (λhk=>by
    exact iM (af [tF 34 (((m.getD x []).length:Int)<((m.getD x []).length:Int)) aD]) aG) aK:jO 9 f128 (vO m p x 0) (.exit 2) ⟨64,true,[(9,.box 9 0),(27,.e (iP x)),(26,.e (iP m.length)),(25,.e (iU m)),(6,.box 6 0),(4,.box 4 0),(1,.e (iP p))],[(9,.cells 28 (jc (rK m x p))),(6,.cells 28 (jc (kJ m p x))),(4,.cells 28 aq)]⟩) (af [.b 9 (.cells (λ_=>rfl) xn:Bx.le (.cells 28 aq) (.cells 28 (jc (kE (m.getD x []) p 0))))]),ag [im (rK m x p),im (kJ m p x)] (nK _ _ aE aE),tB 60 (bt c1),iC ((x:Int)+1) aD]<|.e (af [.b 6 (.jb (by rw[show kJ m p (x+1)=(kJ m p x)from bl c1]):Bx.le (.cells 28 (jc (kJ m p x))) (.cells 28 (jc (kJ m p (x+1)))))])) aG)
  (λhx=>by
    have lN:=ga.mF (aD:N<n);exact iM (af [tT 28 ((N:Int)<m.length) aD,iX (N:Int) (m.length) aD,.s (Sp.jP (WQ m p N K) 0 K aD (λk hk qI=>by
    have gg:=MG k aD;have v1:=sm (m.getD N []) (aD:1<=p) aD k;have v2:=ga.qP (aD:N<n) (aD:k<c);have gga:=gg.all;have v3:=vI v2.kn.1 v2.kn.2;exact iM (ae [tT 34 ((k:Int)<((m.getD N []).length:Int)) aD,iX (k:Int) ((m.getD N []).length) aD,.c (xL ((m.getD N []).getD k il) aE gga),.c (xf (kE (m.getD N []) p k) (kO ((m.getD N []).getD k il)) p aE aE aD aD),ai 53 ((jZ (iJ (kE (m.getD N []) p k) (kO ((m.getD N []).getD k il))) p true) != 0) (by rw[gg.yB];rfl),iC ((k:Int)+1) aD]<|.e (af [.b 9 (.jb rfl:Bx.le (.cells 28 (jc (jG (iJ (kE (m.getD N []) p k) (kO ((m.getD N []).getD k il))) p true))) (.cells 28 (jc (kE (m.getD N []) p (k+1)))))])) aG)
  (λhk=>by
    have v1:=sm (m.getD N []) (aD:1<=p) aD K;have v2:=ga.qP (aD:N<n) (aD:K<c);have v3:=vI v2.kn.1 v2.kn.2;exact iM (af [tT 34 ((K:Int)<((m.getD N []).length:Int)) aD,iX (K:Int) ((m.getD N []).length) aD,ag [ix ((m.getD N []).getD K il)] (afT _ aE tq),.o 44 (.e tc:aj PK (im iQ))]) aG) aK:jO 9 f128 (WQ m p N K 0) .ret ⟨64,true,[(5,.e (bP false)),(4,.box 4 0)],[(4,.cells 28 (jc iQ))]⟩) (af [.b 9 (.cells (λ_=>rfl) xn:Bx.le (.cells 28 aq) (.cells 28 (jc (kE (m.getD N []) p 0))))])]) aG) aK:jO 5 f128 (WO m p N 0) .ret ⟨64,true,[(5,.e (bP false)),(4,.box 4 0)],[(4,.cells 28 (jc iQ))]⟩) (af [.b 6 (.cells (λ_=>rfl) xn:Bx.le (.cells 28 aq) (.cells 28 (jc (kJ m p 0))))])]) 
def ahL(m:List (List Iv))(n c p:Nat)(ga:ke m n c)(iD:8<=p)(iq:p<=512)(N K:Nat)(hN:N<m.length)(hK:K<(m.getD N []).length)(hg:∀ x,x<N->∀ k,k<(m.getD x []).length->oJ (m.getD x []) p k)(MG:∀ k,k<K->oJ (m.getD N []) p k)(rZ:((m.getD N []).getD K il).all=false)(tq:¬jZ (iJ (kE (m.getD N []) p K) (kO ((m.getD N []).getD K il))) p true=0):ig 128 [iU m,iP p] (.iB [im iQ,bP false]):=by
 have ra:=ga.jm;have n8:=ga.n8;have c8:=ga.k8;exact ak call128 func128 (af [ag [iU m] (xS _ _ _ aE),ag [iP p] (C8 _),ah 21 (kT (p:Int)) (oM.2 ⟨aD,aD⟩),.s (Sp.jP (WR m p N) 0 N aD (λx hx lp=>by
    have lx:=ga.mF (aD:x<n);have u1:=sm (m.getD x []) (aD:1<=p) aD (m.getD x []).length;have u2:=As m (aD:1<=p) aD x;by_cases c1:0<jA (kE (m.getD x []) p ((m.getD x []).length)) (kJ m p x)
    .exact iM (ae [tT 28 ((x:Int)<m.length) aD,iX (x:Int) (m.length) aD,.s (Sp.jP (vO m p x) 0 ((m.getD x []).length) aD (λk hk qI=>by
    have gg:=(hg x aD) k aD;have v1:=sm (m.getD x []) (aD:1<=p) aD k;have v2:=ga.qP (aD:x<n) (aD:k<c);have gga:=gg.all;have v3:=vI v2.kn.1 v2.kn.2;exact iM (ae [tT 34 ((k:Int)<((m.getD x []).length:Int)) aD,iX (k:Int) ((m.getD x []).length) aD,.c (xL ((m.getD x []).getD k il) aE gga),.c (xf (kE (m.getD x []) p k) (B7 m x k) p aE aE aD aD),ai 53 ((jZ (iJ (kE (m.getD x []) p k) (kO ((m.getD x []).getD k il))) p true) != 0) (by rw[gg.yB];rfl),iC ((k:Int)+1) aD]<|.e (af [.b 9 (.jb rfl:Bx.le (.cells 28 (DI m x p k)) (.cells 28 (jc (kE (m.getD x []) p (k+1)))))])) aG)
  (λhk=>by
    exact iM (af [tF 34 (((m.getD x []).length:Int)<((m.getD x []).length:Int)) aD]) aG) aK:jO 9 f128 (vO m p x 0) (.exit 2) ⟨64,true,[(9,.box 9 0),(27,.e (iP x)),(26,.e (iP m.length)),(25,.e (iU m)),(6,.box 6 0),(4,.box 4 0),(1,.e (iP p))],[(9,.cells 28 (jc (rK m x p))),(6,.cells 28 (jc (kJ m p x))),(4,.cells 28 aq)]⟩) (af [.b 9 (.cells (λ_=>rfl) xn:Bx.le (.cells 28 aq) (.cells 28 (jc (kE (m.getD x []) p 0))))]),ag [im (rK m x p),im (kJ m p x)] (nK _ _ aE aE),tB 60 (bq c1),iC ((x:Int)+1) aD]<|.e (af [.b 6 (.jb (by rw[show kJ m p (x+1)=(rK m x p)from bn c1]):Bx.le (.cells 28 (jc (rK m x p))) (.cells 28 (jc (kJ m p (x+1)))))])) aG 
    .exact iM (ae [tT 28 ((x:Int)<m.length) aD,iX (x:Int) (m.length) aD,.s (Sp.jP (vO m p x) 0 ((m.getD x []).length) aD (λk hk qI=>by
    have gg:=(hg x aD) k aD;have v1:=sm (m.getD x []) (aD:1<=p) aD k;have v2:=ga.qP (aD:x<n) (aD:k<c);have gga:=gg.all;have v3:=vI v2.kn.1 v2.kn.2;exact iM (ae [tT 34 ((k:Int)<((m.getD x []).length:Int)) aD,iX (k:Int) ((m.getD x []).length) aD,.c (xL ((m.getD x []).getD k il) aE gga),.c (xf (kE (m.getD x []) p k) (B7 m x k) p aE aE aD aD),ai 53 ((jZ (iJ (kE (m.getD x []) p k) (kO ((m.getD x []).getD k il))) p true) != 0) (by rw[gg.yB];rfl),iC ((k:Int)+1) aD]<|.e (af [.b 9 (.jb rfl:Bx.le (.cells 28 (DI m x p k)) (.cells 28 (jc (kE (m.getD x []) p (k+1)))))])) aG)
  (λhk=>by
    exact iM (af [tF 34 (((m.getD x []).length:Int)<((m.getD x []).length:Int)) aD]) aG) aK:jO 9 f128 (vO m p x 0) (.exit 2) ⟨64,true,[(9,.box 9 0),(27,.e (iP x)),(26,.e (iP m.length)),(25,.e (iU m)),(6,.box 6 0),(4,.box 4 0),(1,.e (iP p))],[(9,.cells 28 (jc (rK m x p))),(6,.cells 28 (jc (kJ m p x))),(4,.cells 28 aq)]⟩) (af [.b 9 (.cells (λ_=>rfl) xn:Bx.le (.cells 28 aq) (.cells 28 (jc (kE (m.getD x []) p 0))))]),ag [im (rK m x p),im (kJ m p x)] (nK _ _ aE aE),tB 60 (bt c1),iC ((x:Int)+1) aD]<|.e (af [.b 6 (.jb (by rw[show kJ m p (x+1)=(kJ m p x)from bl c1]):Bx.le (.cells 28 (jc (kJ m p x))) (.cells 28 (jc (kJ m p (x+1)))))])) aG)
  (λhx=>by
    have lN:=ga.mF (aD:N<n);exact iM (af [tT 28 ((N:Int)<m.length) aD,iX (N:Int) (m.length) aD,.s (Sp.jP (WS m p N K) 0 K aD (λk hk qI=>by
    have gg:=MG k aD;have v1:=sm (m.getD N []) (aD:1<=p) aD k;have v2:=ga.qP (aD:N<n) (aD:k<c);have gga:=gg.all;have v3:=vI v2.kn.1 v2.kn.2;exact iM (ae [tT 34 ((k:Int)<((m.getD N []).length:Int)) aD,iX (k:Int) ((m.getD N []).length) aD,.c (xL ((m.getD N []).getD k il) aE gga),.c (xf (kE (m.getD N []) p k) (kO ((m.getD N []).getD k il)) p aE aE aD aD),ai 53 ((jZ (iJ (kE (m.getD N []) p k) (kO ((m.getD N []).getD k il))) p true) != 0) (by rw[gg.yB];rfl),iC ((k:Int)+1) aD]<|.e (af [.b 9 (.jb rfl:Bx.le (.cells 28 (jc (jG (iJ (kE (m.getD N []) p k) (kO ((m.getD N []).getD k il))) p true))) (.cells 28 (jc (kE (m.getD N []) p (k+1)))))])) aG)
  (λhk=>by
    have v1:=sm (m.getD N []) (aD:1<=p) aD K;have v2:=ga.qP (aD:N<n) (aD:K<c);have v3:=vI v2.kn.1 v2.kn.2;exact iM (af [tT 34 ((K:Int)<((m.getD N []).length:Int)) aD,iX (K:Int) ((m.getD N []).length) aD,.c (xL ((m.getD N []).getD K il) aE rZ),.c (xf (kE (m.getD N []) p K) (kO ((m.getD N []).getD K il)) p aE aE aD aD),ah 53 ((jZ (iJ (kE (m.getD N []) p K) (kO ((m.getD N []).getD K il))) p true) != 0) (by simpa using tq),.o 54 (.e tc:aj PK (im iQ))]) aG) aK:jO 9 f128 (WS m p N K 0) .ret ⟨64,true,[(5,.e (bP false)),(4,.box 4 0)],[(4,.cells 28 (jc iQ))]⟩) (af [.b 9 (.cells (λ_=>rfl) xn:Bx.le (.cells 28 aq) (.cells 28 (jc (kE (m.getD N []) p 0))))])]) aG) aK:jO 5 f128 (WR m p N 0) .ret ⟨64,true,[(5,.e (bP false)),(4,.box 4 0)],[(4,.cells 28 (jc iQ))]⟩) (af [.b 6 (.cells (λ_=>rfl) xn:Bx.le (.cells 28 aq) (.cells 28 (jc (kJ m p 0))))])]) 
abbrev B8(h)(d:Dy)(p)(k):=jj (iI (jD h) (iV d) p) (iN ((k+2:Nat):Int)) p
abbrev B9(h)(d:Dy)(p)(k):=nf (iI (jD h) (iV d) p) p (k+1)
abbrev Kn(h)(d:Dy)(p)(x:Nat):=jj (iI (jD h) (iV d) p) (iN ((x+1:Nat):Int)) p
def JN(m:List (List Iv))(h:Iv)(d:Dy)(k p:Nat)(x:Nat):PS:=⟨79,true,[(14,.e (iP ((x+1:Nat):Int))),(13,.box 13 0),(12,.box 12 0),(8,.box 8 0),(2,.e (iP k)),(3,.e (iP p))],[(13,.cells 33 (iZ (nf (iI (jD h) (iV d) p) p x))),(12,.cells 33 (iZ (iI (jD h) (iV d) p))),(8,.cells 33 ar)]⟩
def S8{Q:Nat->Prop}{n:Nat}(h:¬∀ i,i<n->Q i):∃ N,N<n/\¬Q N/\∀ i,i<N->Q i:=by
 induction n with
 |zero=>exact absurd (λi hi=>absurd hi (bO i)) h
 |succ n ih=>
  by_cases hn:∀ i,i<n->Q i
  .refine ⟨n,aD,λq=>h λi hi=>?_,hn⟩;by_cases mq:i=n
   .rw [mq];exact q
   .exact hn i aD 
  .obtain ⟨N,h1,h2,h3⟩:=ih hn;exact⟨N,aD,h2,h3⟩
def ahP(m:List (List Iv))(n c p:Nat)(ga:ke m n c)(iD:8<=p)(iq:p<=512)(d:Dy)(hd:s5 m p=some d):ig 128 [iU m,iP (p:Int)] (.iB [im d,bP true])/\d.iu:=by
 have hg:∀ x,x<m.length->∀ k,k<(m.getD x []).length->oJ (m.getD x []) p k:=by
  intro x hx k hk;apply b9;intro q;rw[Jh hx hk q]at hd;cases hd
 rw[Db hg]at hd;cases hd;exact⟨ahO m n c p ga iD iq hg,As m aD aD _⟩
def ahN(m:List (List Iv))(n c p:Nat)(ga:ke m n c)(iD:8<=p)(iq:p<=512)(hd:s5 m p=none):ig 128 [iU m,iP (p:Int)] (.iB [im iQ,bP false]):=by
 have hb:¬∀ x,x<m.length->∀ k,k<(m.getD x []).length->oJ (m.getD x []) p k:=λhg=>by rw[Db hg]at hd;cases hd
 obtain⟨N,h1,h2,h3⟩:=S8 (Q:=λx=>∀ k,k<(m.getD x []).length->oJ (m.getD x []) p k) hb;obtain⟨K,k1,k2,k3⟩:=S8 h2;by_cases ha:((m.getD N []).getD K il).all=true
 .exact ahK m n c p ga iD iq N K h1 k1 h3 k3 ha
 .exact ahL m n c p ga iD iq N K h1 k1 h3 k3 (by simpa using ha) (λq=>k2 ⟨by simpa using ha,q⟩)
def Jz(u:Iv){p:Nat}(hp:1<=p)(iq:p<=4096):∀ j,(nf u p j).iu
 | 0=>xc 1 aF 
 |j+1=>lX _ _ hp iq
def PN:E.le (.agg ar) (ix ⟨iQ,iQ,false⟩):=
 .agg (.cons (.refl _) (.cons y7 (.cons (.refl _) (.cons (.refl _) (.cons y7 (.cons (.refl _) (.cons (.refl _) .nil)))))))
def aj1(m:List (List Iv))(h:Iv)(n c k p:Nat)(ga:ke m n c)(hh:h.iu)(hk:k<=1000)(iD:8<=p)(iq:p<=512)(hd:s5 m p=none):ig 66 [iU m,ix h,iP k,iP p] (.iB [ix ⟨iQ,iQ,false⟩,bP false]):=
 ak call66 func66 (ae [ag [iU m,iP p] (ahN _ _ _ _ ga iD iq hd)]<|rR (.iB [ix ⟨iQ,iQ,false⟩,bP false]) (.iB (.cons PN (.cons (.refl _) .nil)):E.le (.iB [.agg ar,bP false]) (.iB [ix ⟨iQ,iQ,false⟩,bP false]))) 
def aj2(m:List (List Iv))(h:Iv)(n c k p:Nat)(ga:ke m n c)(hh:h.iu)(hk:k<=1000)(iD:8<=p)(iq:p<=512)(d:Dy)(hn:ig 128 [iU m,iP (p:Int)] (.iB [im d,bP true]))(hd:d.iu)(hu:(iI (jD h) (iV d) p).all=true):ig 66 [iU m,ix h,iP k,iP p] (.iB [ix ⟨iQ,iQ,false⟩,bP false]):=by
 have va:=yr hh;have vp:=qO hd;have vu:=lX (jD h) (iV d) (aD:1<=p) (aD:p<=4096);exact ak call66 func66 (ae [ag [iU m,iP p] hn,.c (Fa h aE),.c (xM d aE),.c (qM (jD h) (iV d) p aE aE aD aD),ah 32 ((iI (jD h) (iV d) p).all) hu]<|rR (.iB [ix ⟨iQ,iQ,false⟩,bP false]) (.iB (.cons PN (.cons (.refl _) .nil)):E.le (.iB [.agg ar,bP false]) (.iB [ix ⟨iQ,iQ,false⟩,bP false]))) 
def aj3(m:List (List Iv))(h:Iv)(n c k p:Nat)(ga:ke m n c)(hh:h.iu)(hk:k<=1000)(iD:8<=p)(iq:p<=512)(d:Dy)(hn:ig 128 [iU m,iP (p:Int)] (.iB [im d,bP true]))(hd:d.iu)(hu:(iI (jD h) (iV d) p).all=false)(hc:0<=jA (iI (jD h) (iV d) p).hi (jY ((k+2:Nat):Int))):ig 66 [iU m,ix h,iP k,iP p] (.iB [ix ⟨iQ,iQ,false⟩,bP false]):=by
 have va:=yr hh;have vp:=qO hd;have vu:=lX (jD h) (iV d) (aD:1<=p) (aD:p<=4096);have vk:=yW (k+2) aD;have ve:=vu.kn.2;exact ak call66 func66 (ae [ag [iU m,iP p] hn,.c (Fa h aE),.c (xM d aE),.c (qM (jD h) (iV d) p aE aE aD aD),ai 32 ((iI (jD h) (iV d) p).all) hu,iC ((k:Int)+2) aD,.c (Cu (k+2) aD),ag [im ((iI (jD h) (iV d) p).hi),im (jY ((k+2:Nat):Int))] (nK _ _ aE aE),tB 40 (bq hc)]<|rR (.iB [ix ⟨iQ,iQ,false⟩,bP false]) (.iB (.cons PN (.cons (.refl _) .nil)):E.le (.iB [.agg ar,bP false]) (.iB [ix ⟨iQ,iQ,false⟩,bP false]))) 
def aj4(m:List (List Iv))(h:Iv)(n c k p:Nat)(ga:ke m n c)(hh:h.iu)(hk:k<=1000)(iD:8<=p)(iq:p<=512)(d:Dy)(hn:ig 128 [iU m,iP (p:Int)] (.iB [im d,bP true]))(hd:d.iu)(hu:(iI (jD h) (iV d) p).all=false)(hc:¬0<=jA (iI (jD h) (iV d) p).hi (jY ((k+2:Nat):Int)))(he:(jj (nf (iI (jD h) (iV d) p) p (k+1)) (lk (iN 1) (jj (iI (jD h) (iV d) p) (iN ((k+2:Nat):Int)) p) p) p).all=true):ig 66 [iU m,ix h,iP k,iP p] (.iB [ix (jj (nf (iI (jD h) (iV d) p) p (k+1)) (lk (iN 1) (jj (iI (jD h) (iV d) p) (iN ((k+2:Nat):Int)) p) p) p),bP false]):=by
 have va:=yr hh;have vp:=qO hd;have vu:=lX (jD h) (iV d) (aD:1<=p) (aD:p<=4096);have vk:=yW (k+2) aD;have ve:=vu.kn.2;have w1:=Jz (iI (jD h) (iV d) p) (aD:1<=p) aD (k+1);have w2:=xc (k+2) aD;have w3:(iN 1).iu:=xc 1 aF;have w4:=pd (iI (jD h) (iV d) p) (iN ((k+2:Nat):Int)) (aD:1<=p) aD;have w5:(lk (iN 1) (jj (iI (jD h) (iV d) p) (iN ((k+2:Nat):Int)) p) p).iu:=rn w3 (sE w4) aD aD;have w6:=pd (nf (iI (jD h) (iV d) p) p (k+1)) (lk (iN 1) (jj (iI (jD h) (iV d) p) (iN ((k+2:Nat):Int)) p) p) (aD:1<=p) aD;have w7:=w6.kn.2;exact ak call66 func66 (af [ag [iU m,iP p] hn,.c (Fa h aE),.c (xM d aE),.c (qM (jD h) (iV d) p aE aE aD aD),ai 32 ((iI (jD h) (iV d) p).all) hu,iC ((k:Int)+2) aD,.c (Cu (k+2) aD),ag [im ((iI (jD h) (iV d) p).hi),im (jY ((k+2:Nat):Int))] (nK _ _ aE aE),tB 40 (bt hc),.c (xV 1 aD),.s (Sp.jP (JN m h d k p) 0 (k+1) aD (λx hx lp=>by
    have w1:=Jz (iI (jD h) (iV d) p) (aD:1<=p) aD x;have w2:=xc (x+1) aD;have w3:=pd (iI (jD h) (iV d) p) (iN ((x+1:Nat):Int)) (aD:1<=p) aD;exact iM (ae [iC ((k:Int)+1) aD,tT 47 (((x+1:Nat):Int)<=((k+1:Nat):Int)) aD,.c (xV (x+1) aD),.c (wU (iI (jD h) (iV d) p) (iN ((x+1:Nat):Int)) p aE aE aD aD),.c (qM (nf (iI (jD h) (iV d) p) p x) (Kn h d p x) p aE aE aD aD),iC (((x+1:Nat):Int)+1) aD]<|.e (af [.b 13 (.jb rfl:Bx.le (.cells 33 (iZ (iI (nf (iI (jD h) (iV d) p) p x) (Kn h d p x) p))) (.cells 33 (iZ (nf (iI (jD h) (iV d) p) p (x+1)))))])) aG)
  (λhx=>by
    exact iM (af [iC ((k:Int)+1) aD,tF 47 ((((k+1)+1:Nat):Int)<=((k+1:Nat):Int)) aD]) aG) aK:jO 9 Tryz.f66 (JN m h d k p 0) (.exit 0) ⟨79,true,[(13,.box 13 0),(12,.box 12 0),(8,.box 8 0),(2,.e (iP k)),(3,.e (iP p))],[(13,.cells 33 (iZ (B9 h d p k))),(12,.cells 33 (iZ (iI (jD h) (iV d) p))),(8,.cells 33 ar)]⟩) (af [.o 14 (an 1 ((0+1:Nat):Int) aS),.b 13 (.jb rfl:Bx.le (.cells 33 (iZ (iN 1))) (.cells 33 (iZ (nf (iI (jD h) (iV d) p) p 0))))]),.c (xV 1 aD),iC ((k:Int)+2) aD,.c (xV (k+2) aD),.c (wU (iI (jD h) (iV d) p) (iN ((k+2:Nat):Int)) p aE aE aD aD),.c (C1 (iN 1) (B8 h d p k) p aE aE aD aD),.c (wU (B9 h d p k) (lk (iN 1) (B8 h d p k) p) p aE aE aD aD),ah 71 ((jj (B9 h d p k) (lk (iN 1) (B8 h d p k) p) p).all) he]) 
def aj5(m:List (List Iv))(h:Iv)(n c k p:Nat)(ga:ke m n c)(hh:h.iu)(hk:k<=1000)(iD:8<=p)(iq:p<=512)(d:Dy)(hn:ig 128 [iU m,iP (p:Int)] (.iB [im d,bP true]))(hd:d.iu)(hu:(iI (jD h) (iV d) p).all=false)(hc:¬0<=jA (iI (jD h) (iV d) p).hi (jY ((k+2:Nat):Int)))(he:(jj (nf (iI (jD h) (iV d) p) p (k+1)) (lk (iN 1) (jj (iI (jD h) (iV d) p) (iN ((k+2:Nat):Int)) p) p) p).all=false):ig 66 [iU m,ix h,iP k,iP p] (.iB [ix ⟨jf (jj (nf (iI (jD h) (iV d) p) p (k+1)) (lk (iN 1) (jj (iI (jD h) (iV d) p) (iN ((k+2:Nat):Int)) p) p) p).hi,(jj (nf (iI (jD h) (iV d) p) p (k+1)) (lk (iN 1) (jj (iI (jD h) (iV d) p) (iN ((k+2:Nat):Int)) p) p) p).hi,false⟩,bP true]):=by
 have va:=yr hh;have vp:=qO hd;have vu:=lX (jD h) (iV d) (aD:1<=p) (aD:p<=4096);have vk:=yW (k+2) aD;have ve:=vu.kn.2;have w1:=Jz (iI (jD h) (iV d) p) (aD:1<=p) aD (k+1);have w2:=xc (k+2) aD;have w3:(iN 1).iu:=xc 1 aF;have w4:=pd (iI (jD h) (iV d) p) (iN ((k+2:Nat):Int)) (aD:1<=p) aD;have w5:(lk (iN 1) (jj (iI (jD h) (iV d) p) (iN ((k+2:Nat):Int)) p) p).iu:=rn w3 (sE w4) aD aD;have w6:=pd (nf (iI (jD h) (iV d) p) p (k+1)) (lk (iN 1) (jj (iI (jD h) (iV d) p) (iN ((k+2:Nat):Int)) p) p) (aD:1<=p) aD;have w7:=w6.kn.2;exact ak call66 func66 (af [ag [iU m,iP p] hn,.c (Fa h aE),.c (xM d aE),.c (qM (jD h) (iV d) p aE aE aD aD),ai 32 ((iI (jD h) (iV d) p).all) hu,iC ((k:Int)+2) aD,.c (Cu (k+2) aD),ag [im ((iI (jD h) (iV d) p).hi),im (jY ((k+2:Nat):Int))] (nK _ _ aE aE),tB 40 (bt hc),.c (xV 1 aD),.s (Sp.jP (JN m h d k p) 0 (k+1) aD (λx hx lp=>by
    have w1:=Jz (iI (jD h) (iV d) p) (aD:1<=p) aD x;have w2:=xc (x+1) aD;have w3:=pd (iI (jD h) (iV d) p) (iN ((x+1:Nat):Int)) (aD:1<=p) aD;exact iM (ae [iC ((k:Int)+1) aD,tT 47 (((x+1:Nat):Int)<=((k+1:Nat):Int)) aD,.c (xV (x+1) aD),.c (wU (iI (jD h) (iV d) p) (iN ((x+1:Nat):Int)) p aE aE aD aD),.c (qM (nf (iI (jD h) (iV d) p) p x) (Kn h d p x) p aE aE aD aD),iC (((x+1:Nat):Int)+1) aD]<|.e (af [.b 13 (.jb rfl:Bx.le (.cells 33 (iZ (iI (nf (iI (jD h) (iV d) p) p x) (Kn h d p x) p))) (.cells 33 (iZ (nf (iI (jD h) (iV d) p) p (x+1)))))])) aG)
  (λhx=>by
    exact iM (af [iC ((k:Int)+1) aD,tF 47 ((((k+1)+1:Nat):Int)<=((k+1:Nat):Int)) aD]) aG) aK:jO 9 Tryz.f66 (JN m h d k p 0) (.exit 0) ⟨79,true,[(13,.box 13 0),(12,.box 12 0),(8,.box 8 0),(2,.e (iP k)),(3,.e (iP p))],[(13,.cells 33 (iZ (B9 h d p k))),(12,.cells 33 (iZ (iI (jD h) (iV d) p))),(8,.cells 33 ar)]⟩) (af [.o 14 (an 1 ((0+1:Nat):Int) aS),.b 13 (.jb rfl:Bx.le (.cells 33 (iZ (iN 1))) (.cells 33 (iZ (nf (iI (jD h) (iV d) p) p 0))))]),.c (xV 1 aD),iC ((k:Int)+2) aD,.c (xV (k+2) aD),.c (wU (iI (jD h) (iV d) p) (iN ((k+2:Nat):Int)) p aE aE aD aD),.c (C1 (iN 1) (B8 h d p k) p aE aE aD aD),.c (wU (B9 h d p k) (lk (iN 1) (B8 h d p k) p) p aE aE aD aD),ai 71 ((jj (B9 h d p k) (lk (iN 1) (B8 h d p k) p) p).all) he,ag [im ((jj (B9 h d p k) (lk (iN 1) (B8 h d p k) p) p).hi)] (yA _ aE)]) 
def ajc(r:List Iv):((List.range (r.length)).any λj_=>(r.getD j_ il).all)=r.any λx=>x.all:=by
 rw[fP,dE,dE];constructor
 .rintro ⟨j,h1,h2⟩;have hj:=cz.1 h1;rw[tY hj]at h2;exact⟨_,cO hj,h2⟩
 .rintro ⟨x,h1,h2⟩;obtain⟨j,hj,rfl⟩:=List.mem_iff_getElem.1 h1;exact⟨j,cz.2 hj,by rw[tY hj];exact h2⟩
def ajd(m:List (List Iv)):((List.range (m.length)).any λi_=>(m.getD i_ []).any λx=>x.all)=m.any λr=>r.any λx=>x.all:=by
 rw[fP,dE,dE];constructor
 .rintro ⟨j,h1,h2⟩;have hj:=cz.1 h1;rw[tY hj]at h2;exact⟨_,cO hj,h2⟩
 .rintro ⟨x,h1,h2⟩;obtain⟨j,hj,rfl⟩:=List.mem_iff_getElem.1 h1;exact⟨j,cz.2 hj,by rw[tY hj];exact h2⟩
def Z7(x:Iv):ig 151 [ix x] (bP x.all):=
 ak call151 func151 (.nil) 
def Z8(r:List Iv)(hl:r.length<=1000):ig 149 [iz r] (bP (r.any λx=>x.all)):=
 ak call149 func149 (ae [.c (Nl true r.length (jF r) 151 [] (λj_=>(r.getD j_ il).all) (λj hj=>Z7 _) aD:ig 150 [iz r,.fn 151 []] _)]<|rQ (bP ((List.range (r.length)).any λj_=>(r.getD j_ il).all)) (bP (r.any λx=>x.all)) (by rw[ajc])) 
def Qi(m:List (List Iv))(hl:m.length<=1000)(hr:∀ i,(m.getD i []).length<=1000):ig 74 [iU m] (bP (m.any λr=>r.any λx=>x.all)):=
 ak call74 func74 (ae [.c (JS true m.length (rF m) 149 [] (λi_=>(m.getD i_ []).any λx=>x.all) (λi hi=>Z8 _ (hr i)) aD:ig 148 [iU m,.fn 149 []] _)]<|rQ (bP ((List.range (m.length)).any λi_=>(m.getD i_ []).any λx=>x.all)) (bP (m.any λr=>r.any λx=>x.all)) (by rw[ajd])) 
def Pp(m:List (List Iv))(n c:Nat)(ga:ke m n c):ig 65 [iU m] (bP (decide (n=c))):=by
 have ra:=ga.jm;have n1:=ga.n1;have la:=ga.mF (aD:0<n);by_cases h:n=c
 .exact ak call65 func65 (ae [ag [iU m] (xS _ _ _ aE),iX 0 (m.length) aD,ah 12 ((m.length:Int)==((m.getD 0 []).length:Int)) (FG aD)]<|rQ (bP true) (bP (decide (n=c))) (by rw[bq h])) 
 .exact ak call65 func65 (ae [ag [iU m] (xS _ _ _ aE),iX 0 (m.length) aD,ai 12 ((m.length:Int)==((m.getD 0 []).length:Int)) (WA aD)]<|rQ (bP false) (bP (decide (n=c))) (by rw[bt h])) 
def ahx{d:Dy}(hd:d.neg=false):jA (jf d) d<=0:=by
 rw[pD (k:=d.e) (.inr (show d.e<=(jf d).e from cv _)) (.inr (cv _))];have h1:=N9 hd d.e;by_cases h0:d.m=0
 .have:(jf d).num d.e=0:=by unfold Dy.num Dy.j8 jf;simp[h0]
  omega
 .rw [N8 d d.e h0];omega
def JO(m:List (List Iv))(h:Iv)(n c k p:Nat)(ga:ke m n c)(hh:h.iu)(hk:k<=1000)(iD:8<=p)(iq:p<=512):
 (∀ e,sG m h k p=some e->ig 66 [iU m,ix h,iP (k:Int),iP (p:Int)] (.iB [ix e,bP true])/\e.iu/\e.all=false) /\
 (sG m h k p=none->∃ x:Iv,ig 66 [iU m,ix h,iP (k:Int),iP (p:Int)] (.iB [ix x,bP false])):=by
 cases hn:s5 m p with
 |none=>
  refine⟨λe he=>?_,λ_=>⟨_,aj1 m h n c k p ga hh hk iD iq hn⟩⟩;unfold sG at he;rw[hn]at he;cases he
 |some d=>
  obtain⟨hp,hd⟩:=ahP m n c p ga iD iq d hn;have hdn:d.neg=false:=by
   have hg:∀ i,i<m.length->∀ k,k<(m.getD i []).length->oJ (m.getD i []) p k:=by
    intro i hi k hk;apply b9;intro q;rw[Jh hi hk q]at hn;cases hn
   rw[Db hg]at hn;cases hn;exact Da _ _ _
  have U3:(iI (jD h) (iV d) p).NN:=Jd (KE h) (Jx hdn) p;unfold sG;rw[hn,dF];simp only;by_cases hu:(iI (jD h) (iV d) p).all=true
  .rw [bn (by rw[hu];rfl)];exact⟨λe hx=>(by cases hx),λ_=>⟨_,aj2 m h n c k p ga hh hk iD iq d hp hd hu⟩⟩
  .replace hu:(iI (jD h) (iV d) p).all=false:=by simpa using hu
   by_cases hc:0<=jA (iI (jD h) (iV d) p).hi (jY ((k+2:Nat):Int))
   .rw [bn (by rw[hu,bq hc];rfl)];exact⟨λe hx=>(by cases hx),λ_=>⟨_,aj3 m h n c k p ga hh hk iD iq d hp hd hu hc⟩⟩
   .rw [bl (by rw[hu,bt hc];decide)];by_cases he:(jj (nf (iI (jD h) (iV d) p) p (k+1)) (lk (iN 1) (jj (iI (jD h) (iV d) p) (iN ((k+2:Nat):Int)) p) p) p).all=true
    .rw [bn he];exact⟨λe hx=>(by cases hx),λ_=>⟨_,aj4 m h n c k p ga hh hk iD iq d hp hd hu hc he⟩⟩
    .rw [bl he];replace he:(jj (nf (iI (jD h) (iV d) p) p (k+1)) (lk (iN 1) (jj (iI (jD h) (iV d) p) (iN ((k+2:Nat):Int)) p) p) p).all=false:=by simpa using he
     have hv:=pd (nf (iI (jD h) (iV d) p) p (k+1)) (lk (iN 1) (jj (iI (jD h) (iV d) p) (iN ((k+2:Nat):Int)) p) p) (aD:1<=p) (aD:p<=4096);have hnn:=Yc (c:=k+2) U3 aD hu aD (Xi U3 p (k+1)) he (aD:1<=p) aD;refine⟨λe hx=>?_,λhx=>(by cases hx)⟩;cases hx;exact⟨aj5 m h n c k p ga hh hk iD iq d hp hd hu hc he,.inr ⟨rfl,uE hv.kn.2,hv.kn.2,ahx hnn.hi⟩,rfl⟩
abbrev xm(m:List (List Iv))(h:Iv)(p)(k)(e:Iv):=λi_=>(List.range (((j9 m h p k).getD i_ []).length)).map (λj_=>jL (((j9 m h p k).getD i_ []).getD j_ il) e p)
abbrev AP(m:List (List Iv))(h:Iv)(p)(k)(x)(e:Iv):=λj_=>jL (((j9 m h p k).getD x []).getD j_ il) e p
abbrev DJ(m:List (List Iv))(h:Iv)(p)(k)(e:Iv):=(List.range ((j9 m h p k).length)).map (xm m h p k e)
abbrev AQ(m:List (List Iv))(h:Iv)(p)(k)(x)(y)(e:Iv):=jL (((j9 m h p k).getD x []).getD y il) e p
abbrev Ko(m:List (List Iv))(h:Iv)(p)(k)(x)(e:Iv):=iz ((List.range (((j9 m h p k).getD x []).length)).map (AP m h p k x e))
def Hs(m:List (List Iv))(h e:Iv)(k p:Nat)(x:Nat):PS:=⟨122,true,[(14,.e (iP ((x+1:Nat):Int))),(13,.e (iU (j9 m h p x))),(12,.e (iU (rI m h p x))),(10,.box 10 0),(5,.box 5 0),(0,.e (iU m)),(2,.e (iP k)),(3,.e (iP p))],[(10,.cells 33 (iZ e)),(5,.cells 33 (iZ h))]⟩
def Ht(m:List (List Iv))(h e:Iv)(k p:Nat)(x:Nat):PS:=⟨122,true,[(17,.own 17),(96,.e (iP x)),(95,.e (iP ((j9 m h p k).length:Int))),(94,.e (iU (j9 m h p k))),(10,.box 10 0),(3,.e (iP p))],[(17,.row true 35 x 1 (rF ((List.range x).map (xm m h p k e)))),(10,.cells 33 (iZ e))]⟩
def Hu(m:List (List Iv))(h e:Iv)(k p x:Nat)(y:Nat):PS:=⟨122,true,[(20,.own 20),(102,.e (iP y)),(101,.e (iP (((j9 m h p k).getD x []).length:Int))),(100,.e (iz ((j9 m h p k).getD x []))),(17,.own 17),(96,.e (iP x)),(95,.e (iP ((j9 m h p k).length:Int))),(94,.e (iU (j9 m h p k))),(10,.box 10 0),(3,.e (iP p))],[(20,.row true 33 y 7 (jF ((List.range y).map (AP m h p k x e)))),(17,.row true 35 x 1 (rF ((List.range x).map (xm m h p k e)))),(10,.cells 33 (iZ e))]⟩
def adt(m:List (List Iv))(h:Iv)(n k p:Nat)(ga:ke m n n)(hh:h.iu)(yK:h.all=false)(lW:1<=k)(hk:k<=16)(iD:8<=p)(iq:p<=512)(hr:sG m h k p=none):ig 21 [iU m,ix h,iP k,iP p] (.iB [.v (.slice none 0 0),iP 15]):=by
 have ra:=ga.jm;have n1:=ga.n1;have n8:=ga.n8;obtain⟨x0,og⟩:=(JO m h n n k p ga hh aD iD iq).2 hr;exact ak call21 func21 (af [ag [iU m] (Pp _ _ _ ga),tT 24 (n=n) rfl,.c (si h aE),ai 33 h.all yK,tF 36 ((p:Int)<8) aD,tF 39 (512<(p:Int)) aD,tF 43 ((k:Int)<1) aD,tF 47 (16<(k:Int)) aD,ag [iU m,ix h,iP k,iP p] og]) 
def adu(m:List (List Iv))(h:Iv)(n k p:Nat)(ga:ke m n n)(hh:h.iu)(yK:h.all=false)(lW:1<=k)(hk:k<=16)(iD:8<=p)(iq:p<=512)(e:Iv)(hr:sG m h k p=some e)(rZ:(((List.range ((j9 m h p k).length)).map (λi_=>(List.range (((j9 m h p k).getD i_ []).length)).map (λj_=>jL (((j9 m h p k).getD i_ []).getD j_ il) e p))).any λr=>r.any λx=>x.all)=true):ig 21 [iU m,ix h,iP k,iP p] (.iB [.v (.slice none 0 0),iP 15]):=by
 have ra:=ga.jm;have n1:=ga.n1;have n8:=ga.n8;obtain⟨Bt,qc,hea⟩:=(JO m h n n k p ga hh aD iD iq).1 e hr;have gs:=AM (h:=h) (p:=p) ga aD aD k;have rs:=gs.jm;have Bu:∀ i,(((List.range ((j9 m h p k).length)).map (λi_=>(List.range (((j9 m h p k).getD i_ []).length)).map (λj_=>jL (((j9 m h p k).getD i_ []).getD j_ il) e p))).getD i []).length<=1000:=by
  intro i;by_cases hi:i<(j9 m h p k).length
  .rw [F4 hi];have:=gs.Fh i;simp only[dI,eG];omega
  .rw [bu,cw (by simpa using hi)];exact ch _
 exact ak call21 func21 (af [ag [iU m] (Pp _ _ _ ga),tT 24 (n=n) rfl,.c (si h aE),ai 33 h.all yK,tF 36 ((p:Int)<8) aD,tF 39 (512<(p:Int)) aD,tF 43 ((k:Int)<1) aD,tF 47 (16<(k:Int)) aD,ag [iU m,ix h,iP k,iP p] Bt,.c (Wg m.length aD aD),.s (Sp.jP (Hs m h e k p) 0 k aD (λx hx lp=>by
    have w1:=xj (h:=h) ga (aD:1<=p) aD x;have w2:=C7 w1 ga (aD:1<=p) (aD:p<=4096);have w3:=xc (x+1) aD;have w4:=pd h (iN ((x+1:Nat):Int)) (aD:1<=p) (aD:p<=4096);have w5:=AM (h:=h) ga (aD:1<=p) aD x;have w6:ke (s8 (re (rI m h p x) m p) (jj h (iN ((x+1:Nat):Int)) p) p) n n:=Pf w2 (aD:1<=p) aD;exact iM (af [tT 65 (((x+1:Nat):Int)<=k) aD,ag [iU (rI m h p x),iU m,iP p] (Wh _ _ _ _ _ _ aE aE aD aD),ai 76 ((0:Int) != 0) aF,.c (xV (x+1) aD),.c (wU h (iN ((x+1:Nat):Int)) p aE aE aD aD),ag [iU (re (rI m h p x) m p),ix (jj h (iN ((x+1:Nat):Int)) p),iP p] (Wj _ _ _ _ _ aE aE aD aD),ag [iU (j9 m h p x),iU (s8 (re (rI m h p x) m p) (jj h (iN ((x+1:Nat):Int)) p) p),iP p] (We _ _ _ _ _ aE aE aD aD),ai 93 ((0:Int) != 0) aF,iC (((x+1:Nat):Int)+1) aD]) aG)
  (λhx=>by
    exact iM (af [tF 65 (((k+1:Nat):Int)<=k) aD]) aG) aK:jO 11 Tryz.f21 (Hs m h e k p 0) (.exit 0) ⟨122,true,[(13,.e (iU (j9 m h p k))),(10,.box 10 0),(3,.e (iP p))],[(10,.cells 33 (iZ e))]⟩) (af [.o 14 (an 1 ((0+1:Nat):Int) aS)]),.y 17 17 true 35 1 (rF ((List.range 0).map (xm m h p k e))),.s (Sp.jP (Ht m h e k p) 0 ((j9 m h p k).length) aD (λx hx lp=>by
    have lx:=gs.mF (aD:x<n);exact iM (ae [tT 97 ((x:Int)<((j9 m h p k).length:Int)) aD,iX (x:Int) ((j9 m h p k).length) aD,.y 20 20 true 33 7 (jF ((List.range 0).map (AP m h p k x e))),.s (Sp.jP (Hu m h e k p x) 0 (((j9 m h p k).getD x []).length) aD (λy hy EH=>by
    have w1:=gs.qP (aD:x<n) (aD:y<n);have h1:=oC (jL (((j9 m h p k).getD x []).getD y il) e p);exact iM (ae [tT 103 ((y:Int)<(((j9 m h p k).getD x []).length:Int)) aD,iX (y:Int) (((j9 m h p k).getD x []).length) aD,.c (vF (((j9 m h p k).getD x []).getD y il) e p aE aE aD aD),.o 111 (.e (mr _):aj (.sl true 1 7 λi_ j_=>(iZ (AQ m h p k x y e)).getD (i_*7+j_) (.v (.bool false))) (iz [AQ m h p k x y e])),.a (aD:(y+[jL (((j9 m h p k).getD x []).getD y il) e p].length)*88<=140737488355328),iC ((y:Int)+1) aD]<|.e (af [.b 20 (xP rfl rfl rfl:Bx.le (.row true 33 (y+[AQ m h p k x y e].length) 7 (λi_ j_=>if i_<y then(jF ((List.range y).map (AP m h p k x e))) i_ j_ else(E.jH (iz [AQ m h p k x y e])) (i_-y) j_)) (.row true 33 (y+1) 7 (jF ((List.range (y+1)).map (AP m h p k x e)))))])) aG)
  (λhy=>by
    exact iM (ae [tF 103 ((((j9 m h p k).getD x []).length:Int)<(((j9 m h p k).getD x []).length:Int)) aD,.z 20]<|.e (af [.o 20 (.e (wV aJ):aj (.sl true (((j9 m h p k).getD x []).length) 7 (jF ((List.range (((j9 m h p k).getD x []).length)).map (λj_=>jL (((j9 m h p k).getD x []).getD j_ il) e p)))) (iz ((List.range (((j9 m h p k).getD x []).length)).map (λj_=>jL (((j9 m h p k).getD x []).getD j_ il) e p))))])) aG) aK:jO 26 Tryz.f21 (Hu m h e k p x 0) (.exit 4) ⟨122,true,[(20,.e (Ko m h p k x e)),(17,.own 17),(96,.e (iP x)),(95,.e (iP ((j9 m h p k).length:Int))),(94,.e (iU (j9 m h p k))),(10,.box 10 0),(3,.e (iP p))],[(17,.row true 35 x 1 (rF ((List.range x).map (xm m h p k e)))),(10,.cells 33 (iZ e))]⟩) .nil,.a (aD:(x+1)*24<=140737488355328),iC ((x:Int)+1) aD]<|.e (af [.b 17 (Wk rfl rfl rfl (λj hj=>by cases amU.1 hj;rfl):Bx.le (.row true 35 (x+1) 1 (λi_ j_=>if i_<x then(rF ((List.range x).map (xm m h p k e))) i_ j_ else(E.jH (.sl true 1 1 λi_ j_=>[Ko m h p k x e].getD (i_*1+j_) (.v (.bool false)))) (i_-x) j_)) (.row true 35 (x+1) 1 (rF ((List.range (x+1)).map (xm m h p k e)))))])) aG)
  (λhx=>by
    exact iM (ae [tF 97 (((j9 m h p k).length:Int)<((j9 m h p k).length:Int)) aD,.z 17]<|.e (af [.o 17 (.e (Wi aJ):aj (.sl true ((j9 m h p k).length) 1 (rF ((List.range ((j9 m h p k).length)).map (λi_=>(List.range (((j9 m h p k).getD i_ []).length)).map (λj_=>jL (((j9 m h p k).getD i_ []).getD j_ il) e p))))) (iU ((List.range ((j9 m h p k).length)).map (λi_=>(List.range (((j9 m h p k).getD i_ []).length)).map (λj_=>jL (((j9 m h p k).getD i_ []).getD j_ il) e p)))))])) aG) aK:jO 22 Tryz.f21 (Ht m h e k p 0) (.exit 2) ⟨122,true,[(17,.e (iU (DJ m h p k e)))],[]⟩) .nil,.c (Qi (DJ m h p k e) aR Bu),ah 120 ((DJ m h p k e).any λr=>r.any λx=>x.all) rZ]) 
def adv(m:List (List Iv))(h:Iv)(n k p:Nat)(ga:ke m n n)(hh:h.iu)(yK:h.all=false)(lW:1<=k)(hk:k<=16)(iD:8<=p)(iq:p<=512)(e:Iv)(hr:sG m h k p=some e)(rZ:(((List.range ((j9 m h p k).length)).map (λi_=>(List.range (((j9 m h p k).getD i_ []).length)).map (λj_=>jL (((j9 m h p k).getD i_ []).getD j_ il) e p))).any λr=>r.any λx=>x.all)=false):ig 21 [iU m,ix h,iP k,iP p] (.iB [iU ((List.range ((j9 m h p k).length)).map (λi_=>(List.range (((j9 m h p k).getD i_ []).length)).map (λj_=>jL (((j9 m h p k).getD i_ []).getD j_ il) e p))),iP 0]):=by
 have ra:=ga.jm;have n1:=ga.n1;have n8:=ga.n8;obtain⟨Bt,qc,hea⟩:=(JO m h n n k p ga hh aD iD iq).1 e hr;have gs:=AM (h:=h) (p:=p) ga aD aD k;have rs:=gs.jm;have Bu:∀ i,(((List.range ((j9 m h p k).length)).map (λi_=>(List.range (((j9 m h p k).getD i_ []).length)).map (λj_=>jL (((j9 m h p k).getD i_ []).getD j_ il) e p))).getD i []).length<=1000:=by
  intro i;by_cases hi:i<(j9 m h p k).length
  .rw [F4 hi];have:=gs.Fh i;simp only[dI,eG];omega
  .rw [bu,cw (by simpa using hi)];exact ch _
 exact ak call21 func21 (af [ag [iU m] (Pp _ _ _ ga),tT 24 (n=n) rfl,.c (si h aE),ai 33 h.all yK,tF 36 ((p:Int)<8) aD,tF 39 (512<(p:Int)) aD,tF 43 ((k:Int)<1) aD,tF 47 (16<(k:Int)) aD,ag [iU m,ix h,iP k,iP p] Bt,.c (Wg m.length aD aD),.s (Sp.jP (Hs m h e k p) 0 k aD (λx hx lp=>by
    have w1:=xj (h:=h) ga (aD:1<=p) aD x;have w2:=C7 w1 ga (aD:1<=p) (aD:p<=4096);have w3:=xc (x+1) aD;have w4:=pd h (iN ((x+1:Nat):Int)) (aD:1<=p) (aD:p<=4096);have w5:=AM (h:=h) ga (aD:1<=p) aD x;have w6:ke (s8 (re (rI m h p x) m p) (jj h (iN ((x+1:Nat):Int)) p) p) n n:=Pf w2 (aD:1<=p) aD;exact iM (af [tT 65 (((x+1:Nat):Int)<=k) aD,ag [iU (rI m h p x),iU m,iP p] (Wh _ _ _ _ _ _ aE aE aD aD),ai 76 ((0:Int) != 0) aF,.c (xV (x+1) aD),.c (wU h (iN ((x+1:Nat):Int)) p aE aE aD aD),ag [iU (re (rI m h p x) m p),ix (jj h (iN ((x+1:Nat):Int)) p),iP p] (Wj _ _ _ _ _ aE aE aD aD),ag [iU (j9 m h p x),iU (s8 (re (rI m h p x) m p) (jj h (iN ((x+1:Nat):Int)) p) p),iP p] (We _ _ _ _ _ aE aE aD aD),ai 93 ((0:Int) != 0) aF,iC (((x+1:Nat):Int)+1) aD]) aG)
  (λhx=>by
    exact iM (af [tF 65 (((k+1:Nat):Int)<=k) aD]) aG) aK:jO 11 Tryz.f21 (Hs m h e k p 0) (.exit 0) ⟨122,true,[(13,.e (iU (j9 m h p k))),(10,.box 10 0),(3,.e (iP p))],[(10,.cells 33 (iZ e))]⟩) (af [.o 14 (an 1 ((0+1:Nat):Int) aS)]),.y 17 17 true 35 1 (rF ((List.range 0).map (xm m h p k e))),.s (Sp.jP (Ht m h e k p) 0 ((j9 m h p k).length) aD (λx hx lp=>by
    have lx:=gs.mF (aD:x<n);exact iM (ae [tT 97 ((x:Int)<((j9 m h p k).length:Int)) aD,iX (x:Int) ((j9 m h p k).length) aD,.y 20 20 true 33 7 (jF ((List.range 0).map (AP m h p k x e))),.s (Sp.jP (Hu m h e k p x) 0 (((j9 m h p k).getD x []).length) aD (λy hy EH=>by
    have w1:=gs.qP (aD:x<n) (aD:y<n);have h1:=oC (jL (((j9 m h p k).getD x []).getD y il) e p);exact iM (ae [tT 103 ((y:Int)<(((j9 m h p k).getD x []).length:Int)) aD,iX (y:Int) (((j9 m h p k).getD x []).length) aD,.c (vF (((j9 m h p k).getD x []).getD y il) e p aE aE aD aD),.o 111 (.e (mr _):aj (.sl true 1 7 λi_ j_=>(iZ (AQ m h p k x y e)).getD (i_*7+j_) (.v (.bool false))) (iz [AQ m h p k x y e])),.a (aD:(y+[jL (((j9 m h p k).getD x []).getD y il) e p].length)*88<=140737488355328),iC ((y:Int)+1) aD]<|.e (af [.b 20 (xP rfl rfl rfl:Bx.le (.row true 33 (y+[AQ m h p k x y e].length) 7 (λi_ j_=>if i_<y then(jF ((List.range y).map (AP m h p k x e))) i_ j_ else(E.jH (iz [AQ m h p k x y e])) (i_-y) j_)) (.row true 33 (y+1) 7 (jF ((List.range (y+1)).map (AP m h p k x e)))))])) aG)
  (λhy=>by
    exact iM (ae [tF 103 ((((j9 m h p k).getD x []).length:Int)<(((j9 m h p k).getD x []).length:Int)) aD,.z 20]<|.e (af [.o 20 (.e (wV aJ):aj (.sl true (((j9 m h p k).getD x []).length) 7 (jF ((List.range (((j9 m h p k).getD x []).length)).map (λj_=>jL (((j9 m h p k).getD x []).getD j_ il) e p)))) (iz ((List.range (((j9 m h p k).getD x []).length)).map (λj_=>jL (((j9 m h p k).getD x []).getD j_ il) e p))))])) aG) aK:jO 26 Tryz.f21 (Hu m h e k p x 0) (.exit 4) ⟨122,true,[(20,.e (Ko m h p k x e)),(17,.own 17),(96,.e (iP x)),(95,.e (iP ((j9 m h p k).length:Int))),(94,.e (iU (j9 m h p k))),(10,.box 10 0),(3,.e (iP p))],[(17,.row true 35 x 1 (rF ((List.range x).map (xm m h p k e)))),(10,.cells 33 (iZ e))]⟩) .nil,.a (aD:(x+1)*24<=140737488355328),iC ((x:Int)+1) aD]<|.e (af [.b 17 (Wk rfl rfl rfl (λj hj=>by cases amU.1 hj;rfl):Bx.le (.row true 35 (x+1) 1 (λi_ j_=>if i_<x then(rF ((List.range x).map (xm m h p k e))) i_ j_ else(E.jH (.sl true 1 1 λi_ j_=>[Ko m h p k x e].getD (i_*1+j_) (.v (.bool false)))) (i_-x) j_)) (.row true 35 (x+1) 1 (rF ((List.range (x+1)).map (xm m h p k e)))))])) aG)
  (λhx=>by
    exact iM (ae [tF 97 (((j9 m h p k).length:Int)<((j9 m h p k).length:Int)) aD,.z 17]<|.e (af [.o 17 (.e (Wi aJ):aj (.sl true ((j9 m h p k).length) 1 (rF ((List.range ((j9 m h p k).length)).map (λi_=>(List.range (((j9 m h p k).getD i_ []).length)).map (λj_=>jL (((j9 m h p k).getD i_ []).getD j_ il) e p))))) (iU ((List.range ((j9 m h p k).length)).map (λi_=>(List.range (((j9 m h p k).getD i_ []).length)).map (λj_=>jL (((j9 m h p k).getD i_ []).getD j_ il) e p)))))])) aG) aK:jO 22 Tryz.f21 (Ht m h e k p 0) (.exit 2) ⟨122,true,[(17,.e (iU (DJ m h p k e)))],[]⟩) .nil,.c (Qi (DJ m h p k e) aR Bu),ai 120 ((DJ m h p k e).any λr=>r.any λx=>x.all) rZ]) 
def OK{s:List (List Iv)}{e:Iv}{p:Nat}:((List.range (s.length)).map (λi_=>(List.range ((s.getD i_ []).length)).map (λj_=>jL ((s.getD i_ []).getD j_ il) e p)))=s.map λr=>r.map λx=>jL x e p:=by
 apply dU
 .simp
 .intro i h1 h2;have hi:i<s.length:=by simpa using h2
  simp only[dV,ey];rw[tY hi];apply dU
  .simp
  .intro j h3 h4;have hj:j<s[i].length:=by simpa using h4
   simp only[dV,ey];rw[tY hj]
def LI(m:List (List Iv))(h:Iv)(n k p:Nat)(ga:ke m n n)(hh:h.iu)(yK:h.all=false)(lW:1<=k)(hk:k<=16)(iD:8<=p)(iq:p<=512):
 (∀ x,tp m h k p=some x->ig 21 [iU m,ix h,iP (k:Int),iP (p:Int)] (.iB [iU x,iP 0])) /\
 (tp m h k p=none->ig 21 [iU m,ix h,iP (k:Int),iP (p:Int)] (.iB [.v (.slice none 0 0),iP 15])):=by
 unfold tp;cases hr:sG m h k p with
 |none=>exact⟨λx hx=>(by cases hx),λ_=>adt m h n k p ga hh yK lW hk iD iq hr⟩
 |some e=>
  rw[dF];simp only;cases rZ:((j9 m h p k).map λr=>r.map λx=>jL x e p).any λr=>r.any λx=>x.all with
  |true=>
   rw[bn rfl];exact⟨λx hx=>(by cases hx),λ_=>adu m h n k p ga hh yK lW hk iD iq e hr (by rw[OK];exact rZ)⟩
  |false=>
   rw[bl aF];refine⟨λx hx=>?_,λhx=>(by cases hx)⟩;cases hx;have:=adv m h n k p ga hh yK lW hk iD iq e hr (by rw[OK];exact rZ);rwa[OK]at this
def XA(L:List Nat)(n:Nat)(x:Nat):PS:=⟨60,false,[(6,.e (iP x)),(5,.own 16),(0,.e (iw (iy L))),(1,.e (iP n))],[(16,.row false 72 (n/32+(iy L).length+1) 1 (jl (iY ((val ((iy L).take x))*2^n) (n/32+(iy L).length+1))))]⟩
def aiG(L:List Nat)(n:Nat)(hL:iK L)(h1:L.length<=10000)(hn:n<=1000000):ig 207 [iw L,iP n] (iw (ij (val L*2^n))):=by
 have tl:=oF L;unfold mn at tl;have oe:val ((iy L).take (iy L).length)*2^n<4294967296^(n/32+(iy L).length+1):=by
  rw[fL,dh,bw,bE];have h1:=mC hL.iy;have h2:2^n<=4294967296^(n/32)*4294967296:=by
   rw[nF,show(4294967296:Nat)=2^32 by rfl,<-bw];exact bI aF aD 
  rw[bG,dt,bE];refine Nat.mul_lt_mul_of_lt_of_le h1 h2 (by exact eP (pw _) aF)
 exact al call207 func207 (ae [.cf (yf _ aE aU:vZ 252 [iw L] _),.a (aD:0<(32:Int)),iC (n:Int) aD,
  iC (((n/32:Nat):Int)+((iy L).length:Int)) aD,iC ((((n/32)+(iy L).length:Nat):Int)+1) aD,.a (aD:0<=(((((n/32)+(iy L).length)+1:Nat):Int):Int)/\(((((n/32)+(iy L).length)+1:Nat):Int):Int)<=(((((n/32)+(iy L).length)+1:Nat):Int):Int)),.a (aD:((4:Nat):Int)*((((n/32)+(iy L).length)+1:Nat):Int)<=281474976710656/\(((((n/32)+(iy L).length)+1:Nat):Int):Int)<=9223372036854775807),.s (Sp.jP (XA L n) 0 ((iy L).length) aD (λx hx lp=>by
    have Mq:=hL.iy.getD x;have hr:n%32<32:=bC _ aF;have iO:(val ((iy L).take x))<4294967296^x:=by
     have:=mC (hL.iy.take x);rw[cG,dD aD]at this;exact this
    obtain⟨ho,ur⟩:=akN (n:=n) Mq (O:=(iY ((val ((iy L).take x))*2^n) (n/32+(iy L).length+1))) rfl iO (m:=(n/32+(iy L).length+1)) aD;rw[<-uL]at ur;have hu:(((iy L).getD x 0)*2^(n%32))/4294967296<4294967296:=by
     have:=akL Mq hr;omega
    rw[<-bQ hu]at ur;exact iM (ae [tT 20 ((x:Int)<((iy L).length:Int)) aD,iX (x:Int) ((iy L).length) aD,.o 27 (.int (oj _ aD):aj (.v (.int .u64 (IntKind.u64.wrap (((iy L).getD x 0:Nat):Int)))) (.v (.int .u64 (((iy L).getD x 0:Nat):Int)))),.a (aD:0<(32:Int)),.a (aD:0<=(((n%32:Nat):Int):Int)/\(((n%32:Nat):Int):Int)<=((64:Nat):Int)),.o 30 (.int (akM _ _ Mq hr):aj (.v (.int .u64 (IntKind.u64.wrap ((((iy L).getD x 0:Nat):Int)*2^(n%32))))) (.v (.int .u64 ((((iy L).getD x 0)*2^(n%32):Nat):Int)))),.a (aD:0<(32:Int)),iC (n:Int) aD,iC ((x:Int)+((n/32:Nat):Int)) aD,.a (aD:0<(32:Int)),iC (n:Int) aD,
     iC ((x:Int)+((n/32:Nat):Int)) aD,iX ((x+(n/32):Nat):Int) (n/32+(iy L).length+1) aD,.a (aD:(x+(n/32))<(n/32+(iy L).length+1)),.o 44 (.int (DF _ aD):aj (.v (.int .u64 (bits .and .u64 ((((iy L).getD x 0)*2^(n%32):Nat):Int) 4294967295))) (.v (.int .u64 (((((iy L).getD x 0)*2^(n%32))%4294967296:Nat):Int)))),.o 45 (.int (sr _):aj (.v (.int .u32 (IntKind.u32.wrap (((((iy L).getD x 0)*2^(n%32))%4294967296:Nat):Int)))) (.v (.int .u32 ((((((iy L).getD x 0)*2^(n%32))%4294967296)%4294967296:Nat):Int)))),.o 46 (.int (ah7 _ _ _ hr ho):aj (.v (.int .u32 (bits .or .u32 (((iY ((val ((iy L).take x))*2^n) (n/32+(iy L).length+1)).getD (x+(n/32)) 0:Nat):Int) ((((((iy L).getD x 0)*2^(n%32))%4294967296)%4294967296:Nat):Int)))) (.v (.int .u32 ((((iY ((val ((iy L).take x))*2^n) (n/32+(iy L).length+1)).getD (x+(n/32)) 0)+((((iy L).getD x 0)*2^(n%32))%4294967296):Nat):Int)))),
     iX ((x+(n/32):Nat):Int) (n/32+(iy L).length+1) aD,.a (aD:(x+(n/32))<(n/32+(iy L).length+1)),.a (aD:0<(32:Int)),iC (n:Int) aD,
     iC ((x:Int)+((n/32:Nat):Int)) aD,iC (((x+(n/32):Nat):Int)+1) aD,.a (aD:0<=(32:Int)/\(32:Int)<=((64:Nat):Int)),.o 55 (.int (zo _):aj (.v (.int .u64 (((((iy L).getD x 0)*2^(n%32):Nat):Int)/2^32))) (.v (.int .u64 (((((iy L).getD x 0)*2^(n%32))/4294967296:Nat):Int)))),.o 56 (.int (sr _):aj (.v (.int .u32 (IntKind.u32.wrap (((((iy L).getD x 0)*2^(n%32))/4294967296:Nat):Int)))) (.v (.int .u32 ((((((iy L).getD x 0)*2^(n%32))/4294967296)%4294967296:Nat):Int)))),
     iX (((x+(n/32))+1:Nat):Int) (n/32+(iy L).length+1) aD,.a (aD:((x+(n/32))+1)<(n/32+(iy L).length+1)),iC ((x:Int)+1) aD]<|.e (af [.b 16 (ake rfl (by rw[mP];omega) (by rw[mP];omega) ur:Bx.le (.row false 72 (n/32+(iy L).length+1) 1 (λi' j'=>if i'=((x+(n/32))+1)/\0<=j'/\j'<0+1 then[.v (.int .u32 ((((((iy L).getD x 0)*2^(n%32))/4294967296)%4294967296:Nat):Int))].getD (j'-0) .any else(λi' j'=>if i'=(x+(n/32))/\0<=j'/\j'<0+1 then[.v (.int .u32 ((((iY ((val ((iy L).take x))*2^n) (n/32+(iy L).length+1)).getD (x+(n/32)) 0)+((((iy L).getD x 0)*2^(n%32))%4294967296):Nat):Int))].getD (j'-0) .any else(jl (iY ((val ((iy L).take x))*2^n) (n/32+(iy L).length+1))) i' j') i' j')) (.row false 72 (n/32+(iy L).length+1) 1 (jl (iY ((val ((iy L).take (x+1)))*2^n) (n/32+(iy L).length+1)))))])) aG)
  (λhx=>by
    exact iM (ae [tF 20 (((iy L).length:Int)<((iy L).length:Int)) aD,.z 16]<|.e (af [.o 5 (.e (zr (mP _ _).symm):aj (.sl false (n/32+(iy L).length+1) 1 (jl (iY ((val ((iy L).take (iy L).length))*2^n) (n/32+(iy L).length+1)))) (iw (iY ((val ((iy L).take (iy L).length))*2^n) (n/32+(iy L).length+1))))])) aG) aK:jO 4 f207 (XA L n 0) (.exit 0) ⟨60,false,[(5,.e (iw (iY ((val ((iy L).take (iy L).length))*2^n) (n/32+(iy L).length+1))))],[]⟩) (af [.b 16 (F3 aD (λi=>by rw[show val (List.take 0 (iy L))=0 from rfl,cN,G7]):Bx.le (.row false 72 (((n/32)+(iy L).length)+1) 1 (λ_ j_=>[.v (.int .u32 0)].getD j_ .any)) (.row false 72 (n/32+(iy L).length+1) 1 (jl (iY ((val ((iy L).take 0))*2^n) (n/32+(iy L).length+1)))))]),.cf (yf _ (tn _ _) aU:vZ 252 [iw (iY ((val ((iy L).take (iy L).length))*2^n) (n/32+(iy L).length+1))] _)]<|rQ (iw (iy (iY ((val ((iy L).take (iy L).length))*2^n) (n/32+(iy L).length+1)))) (iw (ij (val L*2^n))) (by rw[B5 oe,fL,oG])) 
def Xz(L M:List Nat)(n:Nat)(x:Nat):PS:=⟨106,false,[(8,.e (iP ((n:Int)-1-(x:Int)))),(7,.own 23),(6,.own 19),(1,.e (iw (iy M))),(0,.e (iw L))],[(23,.row false 72 ((iy M).length+1) 1 (jl (iY (ja (val L) (val M) n x) ((iy M).length+1)))),(19,.row false 72 L.length 1 (jl (iY ((kR (val L) (val M) n x)*2^(n-x)) L.length)))]⟩
def Xx(L M:List Nat)(n x:Nat)(k:Nat):PS:=⟨106,false,[(10,.e (iP k)),(9,.e (.v (.int .u32 (mj (ja (val L) (val M) n x) (jr (val L) n x) k:Int)))),(8,.e (iP ((n:Int)-1-(x:Int)))),(7,.own 23),(6,.own 19),(1,.e (iw (iy M))),(0,.e (iw L))],[(23,.row false 72 ((iy M).length+1) 1 (jl (kP (2*(ja (val L) (val M) n x)+(jr (val L) n x)) (ja (val L) (val M) n x) k ((iy M).length+1)))),(19,.row false 72 L.length 1 (jl (iY ((kR (val L) (val M) n x)*2^(n-x)) L.length)))]⟩
def Xy(L M:List Nat)(n x:Nat)(k:Nat):PS:=⟨106,false,[(13,.e (iP k)),(12,.e (.v (.int .u64 (jK ((2*(ja (val L) (val M) n x)+(jr (val L) n x))-val M) (val M) k:Int)))),(8,.e (iP ((n:Int)-1-(x:Int)))),(7,.own 23),(6,.own 19),(1,.e (iw (iy M))),(0,.e (iw L))],[(23,.row false 72 ((iy M).length+1) 1 (jl (kP ((2*(ja (val L) (val M) n x)+(jr (val L) n x))-val M) (2*(ja (val L) (val M) n x)+(jr (val L) n x)) k ((iy M).length+1)))),(19,.row false 72 L.length 1 (jl (iY ((kR (val L) (val M) n x)*2^(n-x)) L.length)))]⟩
def aiE(L M:List Nat)(n:Nat)(hL:iK L)(hM:iK M)(h1:L.length<=10000)(h2:M.length<=10000)(hB:0<val M)(hn:n=iA (val L)):ig 246 [iw L,iw M] (.iB [iw (ij (val L/val M)),iw (ij (val L%val M))]):=by
 have tl:=oF M;unfold mn at tl;have TE:=R9 (a:=val L) (b:=val M) (n:=n) (by rw[hn];exact pE _);have Ue:=Q1 hL;have he:=R5 (val L) (val M) n;have f1:val L/val M*2^(n-n)<4294967296^L.length:=by
  rw[di,ca,cg];exact cK (cE _ _) (mC hL)
 have f2:val L%val M<4294967296^((iy M).length+1):=by
  have h1:=mC hM.iy;rw[oG]at h1;refine fU (bC _ hB) (bT h1 (bI aF aD))
 exact al call246 func246 (ae [.cf (yf _ aE aU:vZ 252 [iw M] _),.a (aD:0<=((L.length:Int):Int)/\((L.length:Int):Int)<=((L.length:Int):Int)),.a (aD:((4:Nat):Int)*(L.length:Int)<=281474976710656/\((L.length:Int):Int)<=9223372036854775807),iC (((iy M).length:Int)+1) aD,.a (aD:0<=((((iy M).length+1:Nat):Int):Int)/\((((iy M).length+1:Nat):Int):Int)<=((((iy M).length+1:Nat):Int):Int)),.a (aD:((4:Nat):Int)*(((iy M).length+1:Nat):Int)<=281474976710656/\((((iy M).length+1:Nat):Int):Int)<=9223372036854775807),ag [iw L] (Xs _ aE aD),.o 25 (an (iA (val L):Int) n (by rw[hn])),iC ((n:Int)-1) aD,.s (Sp.jP (Xz L M n) 0 n aD (λx hx lp=>by
    have Iq:(n-1-x)/32<L.length:=by
     have:=Q1 hL;rw[<-hn]at this;omega
    have Bi:=Hd (val L) n x;have amD:=hL.getD ((n-1-x)/32);have Bv:L.getD ((n-1-x)/32) 0/2^((n-1-x)%32)<=L.getD ((n-1-x)/32) 0:=cE _ _;have tu:bits .and .u32 ((L.getD ((n-1-x)/32) 0/2^((n-1-x)%32):Nat):Int) 1=(jr (val L) n x:Int):=by
     rw[Ke _ aD];have:=KL hL (n-1-x) Iq;unfold jr;rw[this];simp[bu,Iq]
    have hRl:(ja (val L) (val M) n x)<val M:=bC _ hB;have U5:val (iY (2*(ja (val L) (val M) n x)+(jr (val L) n x)) ((iy M).length+1))=(2*(ja (val L) (val M) n x)+(jr (val L) n x)):=by
     rw[xl,bQ];have h1:=mC hM.iy;rw[oG]at h1;rw[bG];omega
    exact iM (ae [.o 27 (an ((n:Int)-1-(x:Int)) ((n-1-x:Nat):Int) aD),tT 28 (0<=((n-1-x:Nat):Int)) aD,.o 32 (an ((n:Int)-1-(x:Int)) ((n-1-x:Nat):Int) aD),.a (aD:0<(32:Int)),iC ((n-1-x:Nat):Int) aD,
     iX (((n-1-x)/32:Nat):Int) (L.length) aD,.o 36 (an ((n:Int)-1-(x:Int)) ((n-1-x:Nat):Int) aD),.a (aD:0<(32:Int)),.a (aD:0<=((((n-1-x)%32:Nat):Int):Int)/\((((n-1-x)%32:Nat):Int):Int)<=((32:Nat):Int)),.o 38 (.int (zp _ _):aj (.v (.int .u32 ((L.getD ((n-1-x)/32) 0:Int)/2^((n-1-x)%32)))) (.v (.int .u32 (((L.getD ((n-1-x)/32) 0)/2^((n-1-x)%32):Nat):Int)))),.o 39 (.int tu:aj (.v (.int .u32 (bits .and .u32 (((L.getD ((n-1-x)/32) 0)/2^((n-1-x)%32):Nat):Int) 1))) (.v (.int .u32 (jr (val L) n x:Int)))),.s (Sp.jP (Xx L M n x) 0 ((iy M).length+1) aD (λk hk qI=>by
    have Bi:=Hd (val L) n x;have Uj:=G6 (r:=(ja (val L) (val M) n x)) Bi k;have hdc:=G5 (r:=(ja (val L) (val M) n x)) Bi k;have ur:(kP (2*(ja (val L) (val M) n x)+(jr (val L) n x)) (ja (val L) (val M) n x) k ((iy M).length+1)).set k (2*iH (ja (val L) (val M) n x) k%4294967296+mj (ja (val L) (val M) n x) (jr (val L) n x) k)=(kP (2*(ja (val L) (val M) n x)+(jr (val L) n x)) (ja (val L) (val M) n x) (k+1) ((iy M).length+1)):=by rw[<-Uj.1,Jb]
    exact iM (ae [tT 43 ((k:Int)<(((iy M).length+1:Nat):Int)) aD,iX (k:Int) ((iy M).length+1) aD,.a (aD:k<((iy M).length+1)),.o 49 (.int (by rw[Fv aD]):aj (.v (.int .u32 (((kP (2*(ja (val L) (val M) n x)+(jr (val L) n x)) (ja (val L) (val M) n x) k ((iy M).length+1)).getD k 0:Nat):Int))) (.v (.int .u32 (iH (ja (val L) (val M) n x) k:Int)))),.a (aD:0<=(1:Int)/\(1:Int)<=((32:Nat):Int)),.o 53 (.int (Ph _):aj (.v (.int .u32 (IntKind.u32.wrap ((iH (ja (val L) (val M) n x) k:Int)*2^1)))) (.v (.int .u32 ((2*iH (ja (val L) (val M) n x) k%4294967296:Nat):Int)))),.o 55 (.int (Ju _ _ hdc):aj (.v (.int .u32 (bits .or .u32 ((2*iH (ja (val L) (val M) n x) k%4294967296:Nat):Int) (mj (ja (val L) (val M) n x) (jr (val L) n x) k:Int)))) (.v (.int .u32 ((2*iH (ja (val L) (val M) n x) k%4294967296+mj (ja (val L) (val M) n x) (jr (val L) n x) k:Nat):Int)))),
     iX (k:Int) ((iy M).length+1) aD,.a (aD:k<((iy M).length+1)),.a (aD:0<=(31:Int)/\(31:Int)<=((32:Nat):Int)),.o 58 (.int (zp _ _):aj (.v (.int .u32 ((iH (ja (val L) (val M) n x) k:Int)/2^31))) (.v (.int .u32 (((iH (ja (val L) (val M) n x) k)/2^31:Nat):Int)))),iC ((k:Int)+1) aD]<|.e (af [.o 9 (.int (by rw[Uj.2]):aj (.v (.int .u32 (((iH (ja (val L) (val M) n x) k)/2^31:Nat):Int))) (.v (.int .u32 (mj (ja (val L) (val M) n x) (jr (val L) n x) (k+1):Int)))),.b 23 (Dp rfl a7 ur:Bx.le (.row false 72 ((iy M).length+1) 1 (λi' j'=>if i'=k/\0<=j'/\j'<0+1 then[.v (.int .u32 ((2*iH (ja (val L) (val M) n x) k%4294967296+mj (ja (val L) (val M) n x) (jr (val L) n x) k:Nat):Int))].getD (j'-0) .any else(jl (kP (2*(ja (val L) (val M) n x)+(jr (val L) n x)) (ja (val L) (val M) n x) k ((iy M).length+1))) i' j')) (.row false 72 ((iy M).length+1) 1 (jl (kP (2*(ja (val L) (val M) n x)+(jr (val L) n x)) (ja (val L) (val M) n x) (k+1) ((iy M).length+1)))))])) aG)
  (λhk=>by
    exact iM (ae [tF 43 ((((iy M).length+1:Nat):Int)<(((iy M).length+1:Nat):Int)) aD]<|.e (af [.b 23 (.jb (by rw[Ja (bp _)]):Bx.le (.row false 72 ((iy M).length+1) 1 (jl (kP (2*(ja (val L) (val M) n x)+(jr (val L) n x)) (ja (val L) (val M) n x) ((iy M).length+1) ((iy M).length+1)))) (.row false 72 ((iy M).length+1) 1 (jl (iY (2*(ja (val L) (val M) n x)+(jr (val L) n x)) ((iy M).length+1)))))])) aG) aK:jO 9 f246 (Xx L M n x 0) (.exit 2) ⟨106,false,[(8,.e (iP ((n:Int)-1-(x:Int)))),(7,.own 23),(6,.own 19),(1,.e (iw (iy M))),(0,.e (iw L))],[(23,.row false 72 ((iy M).length+1) 1 (jl (iY (2*(ja (val L) (val M) n x)+(jr (val L) n x)) ((iy M).length+1)))),(19,.row false 72 L.length 1 (jl (iY ((kR (val L) (val M) n x)*2^(n-x)) L.length)))]⟩) (af [.o 9 (.int (by rw[Lc]):aj (.v (.int .u32 (jr (val L) n x:Int))) (.v (.int .u32 (mj (ja (val L) (val M) n x) (jr (val L) n x) 0:Int)))),.b 23 (.jb (by rw[Fw]):Bx.le (.row false 72 ((iy M).length+1) 1 (jl (iY (ja (val L) (val M) n x) ((iy M).length+1)))) (.row false 72 ((iy M).length+1) 1 (jl (kP (2*(ja (val L) (val M) n x)+(jr (val L) n x)) (ja (val L) (val M) n x) 0 ((iy M).length+1)))))]),.c (by rw[AL (show((iy M).length+1)=(iY (2*(ja (val L) (val M) n x)+(jr (val L) n x)) ((iy M).length+1)).length by first|omega|(simp only[mP,uC];omega)|simp only[mP,uC])];exact(aiF _ _ (tn _ _) (iK.iy aE) (by first|omega|(simp only[mP,uC];omega)|simp only[mP,uC]) (by first|omega|(simp only[mP,uC];omega)|simp only[mP,uC])):ig 288 [.sl false ((iy M).length+1) 1 (jl (iY (2*(ja (val L) (val M) n x)+(jr (val L) n x)) ((iy M).length+1))),iw (iy M)] (bP (decide ((kD (val (iY (2*(ja (val L) (val M) n x)+(jr (val L) n x)) ((iy M).length+1))) (val (iy M)))<0))))]<|.w ((2*(ja (val L) (val M) n x)+(jr (val L) n x))<val M)
     (λEC=>by
      have nS:kD (val (iY (2*(ja (val L) (val M) n x)+(jr (val L) n x)) ((iy M).length+1))) (val (iy M))<0:=by rw[U5,oG];unfold kD;rw[bn EC];decide
      have mE:=R6 hB lp EC;have g1:=mE.1;have g2:=mE.2;have Mr:iY (2*(ja (val L) (val M) n x)+(jr (val L) n x)) ((iy M).length+1)=iY (ja (val L) (val M) n (x+1)) ((iy M).length+1):=by rw[g1]
      have ae0:(iY ((kR (val L) (val M) n x)*2^(n-x)) L.length)=(iY ((kR (val L) (val M) n (x+1))*2^(n-(x+1))) L.length):=by
       rw[g2];congr 1;rw[(aD:n-x=n-(x+1)+1),bG,bE 2,bB,bE 2]
      exact ae [tB 61 (bq nS),.o 29 (an ((n:Int)-1-(x:Int)) ((n-1-x:Nat):Int) aD),iC (((n-1-x:Nat):Int)-1) aD]<|.e (af [.o 8 (an (((n-1-x:Nat):Int)-1) ((n:Int)-1-((x+1:Nat):Int)) aS),.b 23 (.jb (by rw[Mr]):Bx.le (.row false 72 ((iy M).length+1) 1 (jl (iY (2*(ja (val L) (val M) n x)+(jr (val L) n x)) ((iy M).length+1)))) (.row false 72 ((iy M).length+1) 1 (jl (iY (ja (val L) (val M) n (x+1)) ((iy M).length+1))))),.b 19 (.jb (by rw[ae0]):Bx.le (.row false 72 L.length 1 (jl (iY ((kR (val L) (val M) n x)*2^(n-x)) L.length))) (.row false 72 L.length 1 (jl (iY ((kR (val L) (val M) n (x+1))*2^(n-(x+1))) L.length))))]))
     (λEC=>by
      have nS:¬kD (val (iY (2*(ja (val L) (val M) n x)+(jr (val L) n x)) ((iy M).length+1))) (val (iy M))<0:=by rw[U5,oG];unfold kD;rw[bl EC];split<;>decide
      have mE:=R7 hB lp EC;have g1:=mE.1;have g2:=mE.2;have Mr:iY ((2*(ja (val L) (val M) n x)+(jr (val L) n x))-val M) ((iy M).length+1)=iY (ja (val L) (val M) n (x+1)) ((iy M).length+1):=by rw[g1]
      have e3:n-x=(n-1-x)+1:= aD ;have e4:n-(x+1)=(n-1-x):= aD ;have hle:=acv (val L) (val M) n x;rw[e3]at hle;have ET:=akG (q:=(kR (val L) (val M) n x)) (i:=(n-1-x)) (m:=L.length) Iq (cK hle (mC hL));have s2:=ET.2.1;have s3:=ET.2.2;have aft:(iY ((kR (val L) (val M) n x)*2^(n-x)) L.length).set ((n-1-x)/32) (iH ((kR (val L) (val M) n x)*2^((n-1-x)+1)) ((n-1-x)/32)+2^((n-1-x)%32))=(iY ((kR (val L) (val M) n (x+1))*2^(n-(x+1))) L.length):=by rw[e3,s3,g2,e4]
      have jk:(((iY ((kR (val L) (val M) n x)*2^(n-x)) L.length).getD ((n-1-x)/32) 0:Nat):Int)=(iH ((kR (val L) (val M) n x)*2^((n-1-x)+1)) ((n-1-x)/32):Int):=by rw[e3,tm Iq]
      have tA:bits .or .u32 (iH ((kR (val L) (val M) n x)*2^((n-1-x)+1)) ((n-1-x)/32):Int) (IntKind.u32.wrap (1*2^((n-1-x)%32)))=((iH ((kR (val L) (val M) n x)*2^((n-1-x)+1)) ((n-1-x)/32)+2^((n-1-x)%32):Nat):Int):=by
       refine Exists.elim ET.1 λt s1=>?_
       rw[s1]at s2 ⊢;exact ah6 _ _ (bC _ aF) s2
      exact ae [tB 61 (bt nS),.s (Sp.jP (Xy L M n x) 0 ((iy M).length+1) aD (λk hk qI=>by
    have ha:=Y0 (aD:val M<=(2*(ja (val L) (val M) n x)+(jr (val L) n x))) k;have hMk:(iy M).getD k 0=iH (val M) k:=by rw[px hM.iy,oG]
    have afm:=hM.iy;rw[<-hMk]at ha;have b1:=pt (2*(ja (val L) (val M) n x)+(jr (val L) n x)) k;have b2:=afm.getD k;have b3:=th ((2*(ja (val L) (val M) n x)+(jr (val L) n x))-val M) (val M) k;have b5:=th ((2*(ja (val L) (val M) n x)+(jr (val L) n x))-val M) (val M) (k+1);have b4:=pt ((2*(ja (val L) (val M) n x)+(jr (val L) n x))-val M) k;have hzz:(((iH (2*(ja (val L) (val M) n x)+(jr (val L) n x)) k+4294967296)-(iy M).getD k 0)-(jK ((2*(ja (val L) (val M) n x)+(jr (val L) n x))-val M) (val M) k))%4294967296%4294967296=iH ((2*(ja (val L) (val M) n x)+(jr (val L) n x))-val M) k:= aD ;have hq:1-(((iH (2*(ja (val L) (val M) n x)+(jr (val L) n x)) k+4294967296)-(iy M).getD k 0)-(jK ((2*(ja (val L) (val M) n x)+(jr (val L) n x))-val M) (val M) k))/4294967296=(jK ((2*(ja (val L) (val M) n x)+(jr (val L) n x))-val M) (val M) (k+1)):= aD ;have ur:(kP ((2*(ja (val L) (val M) n x)+(jr (val L) n x))-val M) (2*(ja (val L) (val M) n x)+(jr (val L) n x)) k ((iy M).length+1)).set k ((((iH (2*(ja (val L) (val M) n x)+(jr (val L) n x)) k+4294967296)-(iy M).getD k 0)-(jK ((2*(ja (val L) (val M) n x)+(jr (val L) n x))-val M) (val M) k))%4294967296%4294967296)=(kP ((2*(ja (val L) (val M) n x)+(jr (val L) n x))-val M) (2*(ja (val L) (val M) n x)+(jr (val L) n x)) (k+1) ((iy M).length+1)):=by rw[hzz,Jb]
    exact iM (ae [tT 65 ((k:Int)<(((iy M).length+1:Nat):Int)) aD,iX (k:Int) ((iy M).length+1) aD,.a (aD:k<((iy M).length+1)),.o 71 (.int (by rw[Fv aD]):aj (.v (.int .u32 (((kP ((2*(ja (val L) (val M) n x)+(jr (val L) n x))-val M) (2*(ja (val L) (val M) n x)+(jr (val L) n x)) k ((iy M).length+1)).getD k 0:Nat):Int))) (.v (.int .u32 (iH (2*(ja (val L) (val M) n x)+(jr (val L) n x)) k:Int)))),.o 72 (.int (oj _ aD):aj (.v (.int .u64 (IntKind.u64.wrap (iH (2*(ja (val L) (val M) n x)+(jr (val L) n x)) k:Int)))) (.v (.int .u64 (iH (2*(ja (val L) (val M) n x)+(jr (val L) n x)) k:Int)))),
     nH ((iH (2*(ja (val L) (val M) n x)+(jr (val L) n x)) k:Int)+4294967296) aD,ag [iw (iy M),iP k] (zh _ _ (iK.iy aE)),
     nH ((((iH (2*(ja (val L) (val M) n x)+(jr (val L) n x)) k)+4294967296:Nat):Int)-(((iy M).getD k 0:Nat):Int)) aD,.o 77 (.int aD:aj (.v (.int .u64 ((((iH (2*(ja (val L) (val M) n x)+(jr (val L) n x)) k)+4294967296:Nat):Int)-(((iy M).getD k 0:Nat):Int)))) (.v (.int .u64 (((iH (2*(ja (val L) (val M) n x)+(jr (val L) n x)) k+4294967296)-(iy M).getD k 0:Nat):Int)))),
     nH ((((iH (2*(ja (val L) (val M) n x)+(jr (val L) n x)) k+4294967296)-(iy M).getD k 0:Nat):Int)-(jK ((2*(ja (val L) (val M) n x)+(jr (val L) n x))-val M) (val M) k:Int)) aD,.o 79 (.int aD:aj (.v (.int .u64 ((((iH (2*(ja (val L) (val M) n x)+(jr (val L) n x)) k+4294967296)-(iy M).getD k 0:Nat):Int)-(jK ((2*(ja (val L) (val M) n x)+(jr (val L) n x))-val M) (val M) k:Int)))) (.v (.int .u64 ((((iH (2*(ja (val L) (val M) n x)+(jr (val L) n x)) k+4294967296)-(iy M).getD k 0)-(jK ((2*(ja (val L) (val M) n x)+(jr (val L) n x))-val M) (val M) k):Nat):Int)))),.o 83 (.int (DF _ aD):aj (.v (.int .u64 (bits .and .u64 ((((iH (2*(ja (val L) (val M) n x)+(jr (val L) n x)) k+4294967296)-(iy M).getD k 0)-(jK ((2*(ja (val L) (val M) n x)+(jr (val L) n x))-val M) (val M) k):Nat):Int) 4294967295))) (.v (.int .u64 (((((iH (2*(ja (val L) (val M) n x)+(jr (val L) n x)) k+4294967296)-(iy M).getD k 0)-(jK ((2*(ja (val L) (val M) n x)+(jr (val L) n x))-val M) (val M) k))%4294967296:Nat):Int)))),.o 84 (.int (sr _):aj (.v (.int .u32 (IntKind.u32.wrap (((((iH (2*(ja (val L) (val M) n x)+(jr (val L) n x)) k+4294967296)-(iy M).getD k 0)-(jK ((2*(ja (val L) (val M) n x)+(jr (val L) n x))-val M) (val M) k))%4294967296:Nat):Int)))) (.v (.int .u32 ((((((iH (2*(ja (val L) (val M) n x)+(jr (val L) n x)) k+4294967296)-(iy M).getD k 0)-(jK ((2*(ja (val L) (val M) n x)+(jr (val L) n x))-val M) (val M) k))%4294967296)%4294967296:Nat):Int)))),
     iX (k:Int) ((iy M).length+1) aD,.a (aD:k<((iy M).length+1)),.a (aD:0<=(32:Int)/\(32:Int)<=((64:Nat):Int)),.o 87 (.int (zo _):aj (.v (.int .u64 (((((iH (2*(ja (val L) (val M) n x)+(jr (val L) n x)) k+4294967296)-(iy M).getD k 0)-(jK ((2*(ja (val L) (val M) n x)+(jr (val L) n x))-val M) (val M) k):Nat):Int)/2^32))) (.v (.int .u64 (((((iH (2*(ja (val L) (val M) n x)+(jr (val L) n x)) k+4294967296)-(iy M).getD k 0)-(jK ((2*(ja (val L) (val M) n x)+(jr (val L) n x))-val M) (val M) k))/4294967296:Nat):Int)))),
     nH (1-(((((iH (2*(ja (val L) (val M) n x)+(jr (val L) n x)) k+4294967296)-(iy M).getD k 0)-(jK ((2*(ja (val L) (val M) n x)+(jr (val L) n x))-val M) (val M) k))/4294967296:Nat):Int)) aD,.o 88 (.int aD:aj (.v (.int .u64 (1-(((((iH (2*(ja (val L) (val M) n x)+(jr (val L) n x)) k+4294967296)-(iy M).getD k 0)-(jK ((2*(ja (val L) (val M) n x)+(jr (val L) n x))-val M) (val M) k))/4294967296:Nat):Int)))) (.v (.int .u64 ((1-((((iH (2*(ja (val L) (val M) n x)+(jr (val L) n x)) k+4294967296)-(iy M).getD k 0)-(jK ((2*(ja (val L) (val M) n x)+(jr (val L) n x))-val M) (val M) k))/4294967296):Nat):Int)))),
     iC ((k:Int)+1) aD]<|.e (af [.o 12 (.int (by rw[hq]):aj (.v (.int .u64 ((1-((((iH (2*(ja (val L) (val M) n x)+(jr (val L) n x)) k+4294967296)-(iy M).getD k 0)-(jK ((2*(ja (val L) (val M) n x)+(jr (val L) n x))-val M) (val M) k))/4294967296):Nat):Int))) (.v (.int .u64 (jK ((2*(ja (val L) (val M) n x)+(jr (val L) n x))-val M) (val M) (k+1):Int)))),.b 23 (Dp rfl a7 ur:Bx.le (.row false 72 ((iy M).length+1) 1 (λi' j'=>if i'=k/\0<=j'/\j'<0+1 then[.v (.int .u32 ((((((iH (2*(ja (val L) (val M) n x)+(jr (val L) n x)) k+4294967296)-(iy M).getD k 0)-(jK ((2*(ja (val L) (val M) n x)+(jr (val L) n x))-val M) (val M) k))%4294967296)%4294967296:Nat):Int))].getD (j'-0) .any else(jl (kP ((2*(ja (val L) (val M) n x)+(jr (val L) n x))-val M) (2*(ja (val L) (val M) n x)+(jr (val L) n x)) k ((iy M).length+1))) i' j')) (.row false 72 ((iy M).length+1) 1 (jl (kP ((2*(ja (val L) (val M) n x)+(jr (val L) n x))-val M) (2*(ja (val L) (val M) n x)+(jr (val L) n x)) (k+1) ((iy M).length+1)))))])) aG)
  (λhk=>by
    exact iM (ae [tF 65 ((((iy M).length+1:Nat):Int)<(((iy M).length+1:Nat):Int)) aD]<|.e (af [.b 23 (.jb (by rw[Ja (bp _)]):Bx.le (.row false 72 ((iy M).length+1) 1 (jl (kP ((2*(ja (val L) (val M) n x)+(jr (val L) n x))-val M) (2*(ja (val L) (val M) n x)+(jr (val L) n x)) ((iy M).length+1) ((iy M).length+1)))) (.row false 72 ((iy M).length+1) 1 (jl (iY ((2*(ja (val L) (val M) n x)+(jr (val L) n x))-val M) ((iy M).length+1)))))])) aG) aK:jO 17 f246 (Xy L M n x 0) (.exit 4) ⟨106,false,[(8,.e (iP ((n:Int)-1-(x:Int)))),(7,.own 23),(6,.own 19),(1,.e (iw (iy M))),(0,.e (iw L))],[(23,.row false 72 ((iy M).length+1) 1 (jl (iY ((2*(ja (val L) (val M) n x)+(jr (val L) n x))-val M) ((iy M).length+1)))),(19,.row false 72 L.length 1 (jl (iY ((kR (val L) (val M) n x)*2^(n-x)) L.length)))]⟩) (af [.o 12 (.int (by rw[GS];rfl):aj (.v (.int .u64 0)) (.v (.int .u64 (jK ((2*(ja (val L) (val M) n x)+(jr (val L) n x))-val M) (val M) 0:Int)))),.b 23 (.jb (by rw[Fw]):Bx.le (.row false 72 ((iy M).length+1) 1 (jl (iY (2*(ja (val L) (val M) n x)+(jr (val L) n x)) ((iy M).length+1)))) (.row false 72 ((iy M).length+1) 1 (jl (kP ((2*(ja (val L) (val M) n x)+(jr (val L) n x))-val M) (2*(ja (val L) (val M) n x)+(jr (val L) n x)) 0 ((iy M).length+1)))))]),.o 90 (an ((n:Int)-1-(x:Int)) ((n-1-x:Nat):Int) aD),.a (aD:0<(32:Int)),iC ((n-1-x:Nat):Int) aD,.o 93 (an ((n:Int)-1-(x:Int)) ((n-1-x:Nat):Int) aD),.a (aD:0<(32:Int)),iC ((n-1-x:Nat):Int) aD,
       iX (((n-1-x)/32:Nat):Int) (L.length) aD,.a (aD:((n-1-x)/32)<L.length),.o 96 (.int jk:aj (.v (.int .u32 (((iY ((kR (val L) (val M) n x)*2^(n-x)) L.length).getD ((n-1-x)/32) 0:Nat):Int))) (.v (.int .u32 (iH ((kR (val L) (val M) n x)*2^((n-1-x)+1)) ((n-1-x)/32):Int)))),.o 97 (an ((n:Int)-1-(x:Int)) ((n-1-x:Nat):Int) aD),.a (aD:0<(32:Int)),.a (aD:0<=((((n-1-x)%32:Nat):Int):Int)/\((((n-1-x)%32:Nat):Int):Int)<=((32:Nat):Int)),.o 100 (.int tA:aj (.v (.int .u32 (bits .or .u32 (iH ((kR (val L) (val M) n x)*2^((n-1-x)+1)) ((n-1-x)/32):Int) (IntKind.u32.wrap (1*2^((n-1-x)%32)))))) (.v (.int .u32 ((iH ((kR (val L) (val M) n x)*2^((n-1-x)+1)) ((n-1-x)/32)+2^((n-1-x)%32):Nat):Int)))),
       iX (((n-1-x)/32:Nat):Int) (L.length) aD,.a (aD:((n-1-x)/32)<L.length),.o 29 (an ((n:Int)-1-(x:Int)) ((n-1-x:Nat):Int) aD),
       iC (((n-1-x:Nat):Int)-1) aD]<|.e (af [.o 8 (an (((n-1-x:Nat):Int)-1) ((n:Int)-1-((x+1:Nat):Int)) aS),.b 23 (.jb (by rw[Mr]):Bx.le (.row false 72 ((iy M).length+1) 1 (jl (iY ((2*(ja (val L) (val M) n x)+(jr (val L) n x))-val M) ((iy M).length+1)))) (.row false 72 ((iy M).length+1) 1 (jl (iY (ja (val L) (val M) n (x+1)) ((iy M).length+1))))),.b 19 (Dp rfl (by rw[mP];omega) aft:Bx.le (.row false 72 L.length 1 (λi' j'=>if i'=((n-1-x)/32)/\0<=j'/\j'<0+1 then[.v (.int .u32 ((iH ((kR (val L) (val M) n x)*2^((n-1-x)+1)) ((n-1-x)/32)+2^((n-1-x)%32):Nat):Int))].getD (j'-0) .any else(jl (iY ((kR (val L) (val M) n x)*2^(n-x)) L.length)) i' j')) (.row false 72 L.length 1 (jl (iY ((kR (val L) (val M) n (x+1))*2^(n-(x+1))) L.length))))]))) aG)
  (λhx=>by
    exact iM (ae [tF 28 (0<=((n:Int)-1-(n:Int))) aD,.z 19,.z 23]<|.e (af [.o 7 (.e (zr (mP _ _).symm):aj (.sl false ((iy M).length+1) 1 (jl (iY (ja (val L) (val M) n n) ((iy M).length+1)))) (iw (iY (ja (val L) (val M) n n) ((iy M).length+1)))),.o 6 (.e (zr (mP _ _).symm):aj (.sl false L.length 1 (jl (iY ((kR (val L) (val M) n n)*2^(n-n)) L.length))) (iw (iY ((kR (val L) (val M) n n)*2^(n-n)) L.length)))])) aG) aK:jO 5 f246 (Xz L M n 0) (.exit 0) ⟨106,false,[(7,.e (iw (iY (ja (val L) (val M) n n) ((iy M).length+1)))),(6,.e (iw (iY ((kR (val L) (val M) n n)*2^(n-n)) L.length)))],[]⟩) (af [.o 8 (an ((n:Int)-1) ((n:Int)-1-((0:Nat):Int)) aS),.b 23 (F3 rfl (λi=>by rw[TE.1,G7]):Bx.le (.row false 72 ((iy M).length+1) 1 (λ_ j_=>[.v (.int .u32 0)].getD j_ .any)) (.row false 72 ((iy M).length+1) 1 (jl (iY (ja (val L) (val M) n 0) ((iy M).length+1))))),.b 19 (F3 rfl (λi=>by rw[TE.2,cN,G7]):Bx.le (.row false 72 L.length 1 (λ_ j_=>[.v (.int .u32 0)].getD j_ .any)) (.row false 72 L.length 1 (jl (iY ((kR (val L) (val M) n 0)*2^(n-0)) L.length))))]),.cf (yf _ (tn _ _) aU:vZ 252 [iw (iY ((kR (val L) (val M) n n)*2^(n-n)) L.length)] _),.cf (yf _ (tn _ _) aU:vZ 252 [iw (iY (ja (val L) (val M) n n) ((iy M).length+1))] _)]<|rQ (.iB [iw (iy (iY ((kR (val L) (val M) n n)*2^(n-n)) L.length)),iw (iy (iY (ja (val L) (val M) n n) ((iy M).length+1)))]) (.iB [iw (ij (val L/val M)),iw (ij (val L%val M))]) (by rw[he.1,he.2,B5 f1,B5 f2,di,ca,cg])) 
def aiL(m:Nat)(h:(ij m).length<=10000):ig 252 [iw (ij m)] (iw (ij m)):=by
 have:=(yf (ij m) (kS m) aD).pc;rwa[show iy (ij m)=ij m from yg m]at this
def Di(m:Nat)(h:(ij m).length<=10000):ig 206 [iw (ij m)] (iP (iA m)):=by
 have:=Xs (ij m) (kS m) aD;rwa[jR]at this
def aiz(m n:Nat)(h:(ij m).length<=10000)(k:(ij n).length<=10000):ig 210 [iw (ij m),iw (ij n)] (iP (kD m n)):=by
 have:=Xw (ij m) (ij n) (kS m) (kS n) aD aD;rwa[jR,jR]at this
def OG(m n:Nat)(h:(ij m).length<=10000)(k:(ij n).length<=10000):ig 253 [iw (ij m),iw (ij n)] (iw (ij (m+n))):=by
 have:=aiw (ij m) (ij n) (kS m) (kS n) aD aD;rwa[jR,jR]at this
def aiJ(m n:Nat)(h:(ij m).length<=10000)(k:n<=m):ig 290 [iw (ij m),iw (ij n)] (iw (ij (m-n))):=by
 have:=aiK (ij m) (ij n) (kS m) (kS n) aD (by rw[jR,jR];exact k);rwa[jR,jR]at this
def OH(m n:Nat)(h:(ij m).length<=10000)(k:n<=1000000):ig 207 [iw (ij m),iP (n:Int)] (iw (ij (m*2^n))):=by
 have:=aiG (ij m) n (kS m) aD aD;rwa[jR]at this
def aiH(m n:Nat)(h:(ij m).length<=10000)(k:n<=1000000):ig 254 [iw (ij m),iP (n:Int)] (iw (ij (m/2^n))):=by
 have:=aiI (ij m) n (kS m) aD aD;rwa[jR]at this
def aiD(m n:Nat)(h:(ij m).length<=10000)(k:(ij n).length<=10000)(h0:0<n):ig 246 [iw (ij m),iw (ij n)] (.iB [iw (ij (m/n)),iw (ij (m%n))]):=by
 have:=aiE (ij m) (ij n) _ (kS m) (kS n) aD aD (by rw[jR];exact h0) rfl;rwa[jR,jR]at this
def aiR(neg:Bool)(p:Nat)(iD:8<=p)(iq:p<=512):ig 255 [bP neg,iP p] (im (canon neg (2^p-1) (16384-(p:Int)))):=by
 have g0:iA (1*2^p)=p+1:=by rw[ck];exact uT (bp _) (fk aF aD)
 have g1:(ij 1).length<=256:=nV aF;have g2:(ij (1*2^p)).length<=256:=nV aD;have g4:1<=1*2^p:=by rw[ck];exact bA aF 
 have g3:(ij ((1*2^p)-1)).length<=256:=nV (by have:=tg (dS (1*2^p) 1);omega);exact ak call255 func255 (ae [.o 6 (.e xd:aj (.sl false 1 1 λi_ j_=>[.v (.int .u32 1)].getD (i_*1+j_) (.v (.bool false))) (iw (ij 1))),ag [iw (ij 1),iP p] (OH _ _ aD aD),.o 9 (.e xd:aj (.sl false 1 1 λi_ j_=>[.v (.int .u32 1)].getD (i_*1+j_) (.v (.bool false))) (iw (ij 1))),ag [iw (ij (1*2^p)),iw (ij 1)] (aiJ _ _ aD aE),iC (16384-(p:Int)) aD,ag [bP neg,iw (ij ((1*2^p)-1)),iP (16384-(p:Int))] (BQ _ _ _ aD aD aD)]<|rQ (im (canon neg ((1*2^p)-1) (16384-(p:Int)))) (im (canon neg (2^p-1) (16384-(p:Int)))) (by rw[ck])) 
noncomputable def Az(neg:Bool)(m:Nat)(e:Int)(more:Bool)(p:Nat)(up:Bool)(h1:(ij m).length<=2900)(kZ:-200000<=e)(kF:e<=200000)(iD:8<=p)(iq:p<=512)(Q:Nat)(U:Bool)(hq:kH m e more p (neg != up)=Q)(hU:U=(neg != up))(hl:(ij Q).length<=2901):Tr prog Tb:=by
 have hb:=xu h1;have lW:jg m e p<=1000000:=by unfold jg;omega
 have qY:(jg m e p:Int)<=max (iA m:Int) (-16384-e):=by unfold jg;omega
 have g4:=xu hl;exact ae [ag [iw (ij Q)] (Di _ aD)]<|.w (0<(iA Q:Int))
  (λk1=>ae [tB 53 (bq k1),ag [iw (ij Q)] (Di _ aD),iC ((iA Q:Int)+e) aD,iC (((iA Q:Int)+e)+(jg m e p:Int)) aD]<|.w (16384<(((iA Q:Int)+e)+(jg m e p:Int)))
   (λk2=>ae [tB 61 (bq k2)]<|.w (U=true)
    (λk3=>ae [tB 63 k3,.o 64 (.e tc:aj (.agg aq) (im iQ))]<|rR (.iB [im (kf neg m e more p up),iP (jV neg m e more p up)]) (by
      have h0:Q≠0:=by intro h;rw[h]at k1;exact absurd k1 aF 
      obtain⟨g1,g2⟩:=(RL (e:=e) hq h0 aD).1 (by rw[<-hU];simp[k3]);exact .jb (by rw[g1,g2]):E.le (.iB [im iQ,iP 9]) (.iB [im (kf neg m e more p up),iP (jV neg m e more p up)])))
    (λk3=>ae [tB 63 (bh k3),ag [bP neg,iP p] (aiR _ _ aD aD)]<|rR (.iB [im (kf neg m e more p up),iP (jV neg m e more p up)]) (by
      have h0:Q≠0:=by intro h;rw[h]at k1;exact absurd k1 aF 
      obtain⟨g1,g2⟩:=(RL (e:=e) hq h0 aD).2 (by rw[<-hU];simp[k3]);exact .jb (by rw[g1,g2]):E.le (.iB [im (canon neg (2^p-1) (16384-(p:Int))),iP 0]) (.iB [im (kf neg m e more p up),iP (jV neg m e more p up)]))))
   (λk2=>ae [tB 61 (bt k2),iC (e+(jg m e p:Int)) aD,ag [bP neg,iw (ij Q),iP (e+(jg m e p:Int))] (BQ _ _ _ aD aD aD)]<|rR (.iB [im (kf neg m e more p up),iP (jV neg m e more p up)]) (by
      obtain⟨g1,g2⟩:=RJ (e:=e) hq (.inr aD);exact .jb (by rw[g1,g2]):E.le (.iB [im (canon neg Q (e+(jg m e p:Int))),iP 0]) (.iB [im (kf neg m e more p up),iP (jV neg m e more p up)]))))
  (λk1=>ae [tB 53 (bt k1),iC (e+(jg m e p:Int)) aD,ag [bP neg,iw (ij Q),iP (e+(jg m e p:Int))] (BQ _ _ _ aD aD aD)]<|rR (.iB [im (kf neg m e more p up),iP (jV neg m e more p up)]) (by
      have h0:Q=0:=by
       apply b9;intro h;have:=nj h;omega
      obtain⟨g1,g2⟩:=RJ (e:=e) hq (.inl h0);exact .jb (by rw[g1,g2]):E.le (.iB [im (canon neg Q (e+(jg m e p:Int))),iP 0]) (.iB [im (kf neg m e more p up),iP (jV neg m e more p up)])))
def XI(neg:Bool)(m:Nat)(e:Int)(more:Bool)(p:Nat)(up:Bool)(h1:(ij m).length<=2900)(kZ:-200000<=e)(kF:e<=200000)(iD:8<=p)(iq:p<=512):ig 209 [bP neg,iw (ij m),iP e,bP more,iP p,bP up] (.iB [im (kf neg m e more p up),iP (jV neg m e more p up)]):=by
 have hb:=xu h1;have lW:jg m e p<=1000000:=by unfold jg;omega
 have qY:(jg m e p:Int)<=max (iA m:Int) (-16384-e):=by unfold jg;omega
 have g1:=vG (cE m (2^jg m e p));have g2:=vG (dH m (2^jg m e p));have l1:(ij 1).length<=256:=nV aF;have g3:(ij ((m/2^jg m e p)+1)).length<=2901:=VT aD aD;have g5:=xu (m:=m/2^jg m e p) (bJ g1 h1);exact ak call209 func209 (ae [ag [iw (ij m)] (aiL _ aD),ag [iw (ij m)] (Di _ aD),iC ((iA m:Int)-p) aD,iC ((-16384)-e) aD,.o 27 (an (if 0>(if((-16384)-e)>((iA m:Int)-p)then((-16384)-e)else((iA m:Int)-p))then 0 else(if((-16384)-e)>((iA m:Int)-p)then((-16384)-e)else((iA m:Int)-p))) (jg m e p:Int) (by unfold jg;(repeat' split)<;>omega)),ag [iw (ij m),iP (jg m e p:Int)] (aiH _ _ aD aD)]<|.w (0<(jg m e p:Int))
  (λk1=>ae [tB 32 (bq k1),ag [iw (ij (m/2^(jg m e p))),iP (jg m e p:Int)] (OH _ _ aD aD),ag [iw (ij ((m/2^(jg m e p))*2^(jg m e p))),iw (ij m)] (aiz _ _ aD aD)]<|.w ((kD ((m/2^(jg m e p))*2^(jg m e p)) m)=0)
   (λk2=>by
    have jk:m%2^(jg m e p)=0:=(V2 _ _).1 k2;exact ae [tB 39 (bj k2)]<|.w (more=true)
     (λk3=>.w (neg=up)
      (λk4=>ae [tB 43 (wm (bg k4)),tB 44 k3]<|Az neg m e more p up h1 kZ kF iD iq (m/2^(jg m e p)) false (by unfold kH;simp[k3,k4,jk]) (by first|rfl|simp[k3,k4,jk]) aD)
      (λk4=>ae [tB 43 (wk (bd k4)),tB 44 k3,.o 49 (.e xd:aj (.sl false 1 1 λi_ j_=>[.v (.int .u32 1)].getD (i_*1+j_) (.v (.bool false))) (iw (ij 1))),ag [iw (ij (m/2^(jg m e p))),iw (ij 1)] (OG _ _ aD aD)]<|Az neg m e more p up h1 kZ kF iD iq ((m/2^(jg m e p))+1) true (by unfold kH;simp[k3,k4,jk]) (by first|rfl|simp[k3,k4,jk]) aD))
     (λk3=>ae [tB 44 (bh k3)]<|Az neg m e more p up h1 kZ kF iD iq (m/2^(jg m e p)) (!(neg==up)) (by unfold kH;simp[k3,jk]) (by first|rfl|simp[k3,jk]) aD))
   (λk2=>by
    have jk:m%2^(jg m e p)≠0:=λh=>k2 ((V2 _ _).2 h)
    exact ae [tB 39 (bk k2)]<|.w (neg=up)
     (λk3=>ae [tB 43 (wm (bg k3))]<|Az neg m e more p up h1 kZ kF iD iq (m/2^(jg m e p)) false (by unfold kH;simp[k3,jk]) (by first|rfl|simp[k3,jk]) aD)
     (λk3=>ae [tB 43 (wk (bd k3)),.o 49 (.e xd:aj (.sl false 1 1 λi_ j_=>[.v (.int .u32 1)].getD (i_*1+j_) (.v (.bool false))) (iw (ij 1))),ag [iw (ij (m/2^(jg m e p))),iw (ij 1)] (OG _ _ aD aD)]<|Az neg m e more p up h1 kZ kF iD iq ((m/2^(jg m e p))+1) true (by unfold kH;simp[k3,jk]) (by first|rfl|simp[k3,jk]) aD)))
  (λk1=>by
   have jk:m%2^(jg m e p)=0:=by rw[show(jg m e p)=0 by omega,ca,dn]
   exact ae [tB 32 (bt k1)]<|.w (more=true)
    (λk2=>.w (neg=up)
     (λk3=>ae [tB 43 (wm (bg k3)),tB 44 k2]<|Az neg m e more p up h1 kZ kF iD iq (m/2^(jg m e p)) false (by unfold kH;simp[k2,k3,jk]) (by first|rfl|simp[k2,k3,jk]) aD)
     (λk3=>ae [tB 43 (wk (bd k3)),tB 44 k2,.o 49 (.e xd:aj (.sl false 1 1 λi_ j_=>[.v (.int .u32 1)].getD (i_*1+j_) (.v (.bool false))) (iw (ij 1))),ag [iw (ij (m/2^(jg m e p))),iw (ij 1)] (OG _ _ aD aD)]<|Az neg m e more p up h1 kZ kF iD iq ((m/2^(jg m e p))+1) true (by unfold kH;simp[k2,k3,jk]) (by first|rfl|simp[k2,k3,jk]) aD))
    (λk2=>ae [tB 44 (bh k2)]<|Az neg m e more p up h1 kZ kF iD iq (m/2^(jg m e p)) (!(neg==up)) (by unfold kH;simp[k2,jk]) (by first|rfl|simp[k2,jk]) aD))) 
def XJ(d:Dy)(p:Nat)(up:Bool)(h1:(ij d.m).length<=2900)(kZ:-200000<=d.e)(kF:d.e<=200000)(iD:8<=p)(iq:p<=512):ig 244 [im d,iP p,bP up] (.iB [im (jG d p up),iP (jZ d p up)]):=
 ak call244 func244 (af [.c (XI d.neg d.m d.e false p up aD aD aD aD aD)]) 
def JC(a b:Dy)(p:Nat)(ha:a.iu)(hb:b.iu)(iD:8<=p)(iq:p<=512):ig 205 [im a,im b,iP p] (iP 0):=
 ak call205 func205 (af [ag [im a] (BS _ aE),ag [im b] (BS _ aE),ag [iP p] (ajD _),ah 16 (kT (p:Int)) (oM.2 ⟨aD,aD⟩)]) 
def XH(a b:Dy)(p:Nat)(up:Bool)(ha:a.iu)(hb:b.iu)(iD:8<=p)(iq:p<=512):ig 186 [im a,im b,iP p,bP up] (.iB [im (jG (iJ a b) p up),iP (jZ (iJ a b) p up)]):=by
 have hx:=alg ha hb;exact ak call186 func186 (af [ag [im a,im b,iP p] (JC _ _ _ aE aE aD aD),ai 16 ((0:Int) != 0) aF,.c (X8 a b (Fp.Dy.iu.w8 aE) (Fp.Dy.iu.w8 aE)),ag [im (iJ a b),iP p,bP up] (XJ _ _ _ hx.1 hx.2.1 hx.2.2 aD aD)]) 
def AB(a b:Dy)(p:Nat)(up:Bool)(ha:a.iu)(hb:b.iu)(iD:8<=p)(iq:p<=512):ig 188 [im a,im b,iP p,bP up] (.iB [im (jG (lM a b) p up),iP (jZ (lM a b) p up)]):=by
 have hx:=aik ha hb;exact ak call188 func188 (af [ag [im a,im b,iP p] (JC _ _ _ aE aE aD aD),ai 16 ((0:Int) != 0) aF,ag [im a,im b] (ajG _ _ (Fp.Dy.iu.w8 aE) (Fp.Dy.iu.w8 aE)),ag [im (lM a b),iP p,bP up] (XJ _ _ _ hx.1 hx.2.1 hx.2.2 aD aD)]) 
def AA(a b:Dy)(p:Nat)(up:Bool)(ha:a.iu)(hb:b.iu)(b0:b.m≠0)(iD:8<=p)(iq:p<=512):ig 191 [im a,im b,iP p,bP up] (.iB [im (ks a b p up),iP (mS a b p up)]):=by
 by_cases a0:a.m=0
 .have e1:ks a b p up=iQ/\mS a b p up=0:=by unfold ks mS;rw[bn a0,bn a0];exact⟨rfl,rfl⟩
  exact ak call191 func191 (ae [ag [im a,im b,iP p] (JC _ _ _ aE aE aD aD),ai 19 ((0:Int) != 0) aF,ai 25 (((ij b.m).length:Int)==0) (ou (qh b0)),ah 30 (((ij a.m).length:Int)==0) (sk (qg.2 a0)),.o 31 (.e tc:aj (.agg aq) (im iQ))]<|rQ (.iB [im iQ,iP 0]) (.iB [im (ks a b p up),iP (mS a b p up)]) (by rw[e1.1,e1.2])) 
 .have va:=ha.ij;have vb:=hb.ij;have xa:=ha.exp;have xb:=hb.exp;have ra:=ha.range.resolve_left a0;have rb:=hb.range.resolve_left b0;have pa:=nj a0;have pb:=nj b0;have hK:kv a b p 2=p+2+iA b.m-iA a.m:=rfl;have bs:=qE a0 (kv a b p 2);have z1:(ij (a.m*2^kv a b p 2)).length<=2900:=nV aD;have z2:(ij (a.m*2^kv a b p 2/b.m)).length<=2900:=nV (by have:=tg (cE (a.m*2^kv a b p 2) b.m);omega);have z3:(ij (a.m*2^kv a b p 2%b.m)).length<=2900:=nV (by have:=tg (dG (bC (a.m*2^kv a b p 2) (eF b0)));omega);have jS:decide (0<(iA (a.m*2^kv a b p 2%b.m):Int))=decide (a.m*2^kv a b p 2%b.m≠0):=by
   by_cases h:a.m*2^kv a b p 2%b.m=0
   .rw [h,sx];rfl
   .have:=nj h;rw[bq h,bq aD]
  exact ak call191 func191 (ae [ag [im a,im b,iP p] (JC _ _ _ aE aE aD aD),ai 19 ((0:Int) != 0) aF,ai 25 (((ij b.m).length:Int)==0) (ou (qh b0)),ai 30 (((ij a.m).length:Int)==0) (ou (qh a0)),iC ((p:Int)+2) aD,ag [iw (ij b.m)] (Di _ aD),iC (((p:Int)+2)+(iA b.m:Int)) aD,ag [iw (ij a.m)] (Di _ aD),
   iC ((((p:Int)+2)+(iA b.m:Int))-(iA a.m:Int)) aD,.o 42 (an (if((((p:Int)+2)+(iA b.m:Int))-(iA a.m:Int))>0 then((((p:Int)+2)+(iA b.m:Int))-(iA a.m:Int))else 0) (kv a b p 2:Int) aQ),ag [iw (ij a.m),iP (kv a b p 2:Int)] (OH _ _ aD aD),ag [iw (ij (a.m*2^(kv a b p 2))),iw (ij b.m)] (aiD _ _ aD aD aD),
   iC (a.e-b.e) aD,iC ((a.e-b.e)-(kv a b p 2:Int)) aD,ag [iw (ij ((a.m*2^(kv a b p 2))%b.m))] (Di _ aD),.c (XI (! (a.neg==b.neg)) ((a.m*2^(kv a b p 2))/b.m) ((a.e-b.e)-(kv a b p 2:Int)) (decide (0<(iA ((a.m*2^(kv a b p 2))%b.m):Int))) p up aD aD aD aD aD)]<|rQ (.iB [im (kf (!(a.neg==b.neg)) ((a.m*2^(kv a b p 2))/b.m) ((a.e-b.e)-(kv a b p 2:Int)) (decide (0<(iA ((a.m*2^(kv a b p 2))%b.m):Int))) p up),iP (jV (!(a.neg==b.neg)) ((a.m*2^(kv a b p 2))/b.m) ((a.e-b.e)-(kv a b p 2:Int)) (decide (0<(iA ((a.m*2^(kv a b p 2))%b.m):Int))) p up)]) (.iB [im (ks a b p up),iP (mS a b p up)]) (by unfold ks mS;rw[bl a0,bl a0,<-jS];rfl)) 
abbrev OD(x:Iv)(y:Iv)(p):=ji (jG (lM x.lo y.lo) p false) (jG (lM x.lo y.lo) p false)
abbrev OE(x:Iv)(y:Iv)(p):=je (jG (lM x.lo y.lo) p true) (jG (lM x.lo y.lo) p true)
def OI(p:Int):ig 121 [iP p] (bP (kT p)):=
 ak call121 func121 (.w (8<=p)
  (λk1=>ae [tB 4 (bq k1)]<|rQ (bP (decide (p<=512))) (bP (kT p)) (by simp[kT,k1]))
  (λk1=>ae [tB 4 (bt k1)]<|rQ (bP false) (bP (kT p)) (by simp[kT,k1]))) 
def oD : ig 110 [] (ix il):=
 ak call110 func110 (af [.o 1 (.e yj:aj (.agg [bP false,.v (.slice none 0 0),iP 0,bP false,.v (.slice none 0 0),iP 0,bP true]) (ix il))]) 
def JE(d:Dy):ig 64 [im d] (ix (iV d)):=
 ak call64 func64 (.nil) 
def XP : ig 123 [im iQ] (bP true):=
 ak call123 func123 (af [ai 4 iQ.neg rfl,ah 10 (((ij iQ.m).length:Int)==0) (sk (qg.2 rfl)),ah 15 (iQ.e==0) rfl]) 
def XO(x:Iv)(hx:x.iu):ig 59 [ix x] (bP true):=by
 by_cases kC:x.all=true
 .obtain ⟨h1,h2⟩:=VF hx kC;exact ak call59 func59 (af [ah 4 x.all kC,.c (by rw[h1];exact XP:ig 123 [im x.lo] (bP true)),.c (by rw[h2];exact XP:ig 123 [im x.hi] (bP true))]) 
 .replace kC:x.all=false:=by simpa using kC
  obtain⟨h1,h2,h3⟩:=pO hx kC;exact ak call59 func59 (af [ai 4 x.all kC,ag [im x.lo] (BS _ aE),ag [im x.hi] (BS _ aE),.c (OW x.lo x.hi (Fp.Dy.iu.w8 aE) (Fp.Dy.iu.w8 aE)),tB 27 (bq h3)]) 
def AD(x:Iv)(hx:x.iu):ig 109 [ix x] (bP (!x.all)):=
 ak call109 func109 (af [ag [ix x] (XO _ aE)]) 
def XM(lo hi:Dy)(e f:Int):ig 111 [im lo,iP e,im hi,iP f] (ix (mU lo e hi f)):=
 ak call111 func111 (.w (e=0)
  (λk1=>ae [tB 10 (bj k1)]<|.w (f=0)
   (λk2=>ae [tB 13 (bj k2)]<|rQ (ix (Iv.mk lo hi false)) (ix (mU lo e hi f)) (by unfold mU;simp[k1,k2];try rfl))
   (λk2=>ae [tB 13 (bk k2),ag [] oD]<|rQ (ix il) (ix (mU lo e hi f)) (by unfold mU;simp[k1,k2])))
  (λk1=>ae [tB 10 (bk k1),ag [] oD]<|rQ (ix il) (ix (mU lo e hi f)) (by unfold mU;simp[k1]))) 
def ai4(x y:Iv)(p:Nat)(hx:x.iu)(hy:y.iu)(iD:8<=p)(iq:p<=512):ig 105 [ix x,ix y,iP p] (ix (jL x y p)):=
 ak call105 func105 (ae [ag [iP p] (OI _),ah 12 (kT (p:Int)) (oM.2 ⟨aD,aD⟩),ag [ix x] (AD _ aE)]<|.w (x.all=true)
  (λk1=>ae [tB 16 (wm k1),ag [] oD]<|rQ (ix il) (ix (jL x y p)) (by unfold jL;simp[k1]))
  (λk1=>by
   have mE:=pO hx (bh k1);have v1:=mE.1;have v2:=mE.2.1;have v3:=mE.2.2;exact ae [tB 16 (wk (bh k1)),ag [ix y] (AD _ aE)]<|.w (y.all=true)
    (λk2=>ae [tB 21 (wm k2),ag [] oD]<|rQ (ix il) (ix (jL x y p)) (by unfold jL;simp[k1,k2]))
    (λk2=>by
     have mE:=pO hy (bh k2);have v4:=mE.1;have v5:=mE.2.1;have v6:=mE.2.2;exact ae [tB 21 (wk (bh k2)),.c (XH x.lo y.lo p false aE aE aD aD),.c (XH x.hi y.hi p true aE aE aD aD),ag [im (jG (iJ x.lo y.lo) p false),iP (jZ (iJ x.lo y.lo) p false),im (jG (iJ x.hi y.hi) p true),iP (jZ (iJ x.hi y.hi) p true)] (XM _ _ _ _)]<|rQ (ix (mU (jG (iJ x.lo y.lo) p false) (jZ (iJ x.lo y.lo) p false) (jG (iJ x.hi y.hi) p true) (jZ (iJ x.hi y.hi) p true))) (ix (jL x y p)) (by unfold jL;simp[k1,k2])))) 
def AE(a b:Dy)(ha:a.iu)(hb:b.iu):ig 189 [im a,im b] (im (ji a b)):=by
 have hc:=zL a b;exact ak call189 func189 (ae [.c (OW a b (Fp.Dy.iu.w8 aE) (Fp.Dy.iu.w8 aE))]<|.w ((jA a b)<=0)
  (λk1=>ae [tB 8 (bq k1)]<|rQ (im a) (im (ji a b)) (by unfold ji;rw[bl aD]))
  (λk1=>ae [tB 8 (bt k1)]<|rQ (im b) (im (ji a b)) (by unfold ji;rw[bn aD]))) 
def zi(a b:Dy)(ha:a.iu)(hb:b.iu):ig 190 [im a,im b] (im (je a b)):=by
 have hc:=zL a b;exact ak call190 func190 (ae [.c (OW a b (Fp.Dy.iu.w8 aE) (Fp.Dy.iu.w8 aE))]<|.w (0<=(jA a b))
  (λk1=>ae [tB 8 (bq k1)]<|rQ (im a) (im (je a b)) (by unfold je;rw[bl aD]))
  (λk1=>ae [tB 8 (bt k1)]<|rQ (im b) (im (je a b)) (by unfold je;rw[bn aD]))) 
def ai8(x:Iv)(hx:x.iu):ig 108 [ix x] (iP (mh x)):=
 ak call108 func108 (ae [ag [ix x] (AD _ aE)]<|.w (x.all=true)
  (λk1=>ae [tB 4 (wm k1)]<|rQ (iP 0) (iP (mh x)) (by unfold mh;simp[k1]))
  (λk1=>by
   have mE:=pO hx (bh k1);have v1:=mE.1;have v2:=mE.2.1;have v3:=mE.2.2;exact ae [tB 4 (wk (bh k1)),ag [im x.lo] (FZ _)]<|.w (0<(Dy.jh x.lo))
    (λk2=>ae [tB 9 (bq k2)]<|rQ (iP 1) (iP (mh x)) (by unfold mh;simp[k1,k2]))
    (λk2=>ae [tB 9 (bt k2),ag [im x.hi] (FZ _)]<|.w ((Dy.jh x.hi)<0)
     (λk3=>ae [tB 13 (bq k3)]<|rQ (iP (-1)) (iP (mh x)) (by unfold mh;simp[k1,k2,k3]))
     (λk3=>ae [tB 13 (bt k3)]<|rQ (iP 0) (iP (mh x)) (by unfold mh;simp[k1,k2,k3]))))) 
def ai6(x:Iv)(hx:x.iu)(kC:x.all=false):ig 194 [ix x] (im (kO x)):=by
 obtain⟨v1,v2,v3⟩:=pO hx kC;exact ak call194 func194 (ae [ag [im x.lo] (OY _),ag [im (jf x.lo),im x.hi] (zi _ _ (uE aE) aE)]<|rQ (im (je (jf x.lo) x.hi)) (im (kO x)) (by rw[agK v1 v2 v3])) 
def XL(x y:Iv):ig 187 [ix x,ix y] (.sl true 4 6 λi_ j_=>(jc x.lo++jc y.lo++jc x.lo++jc y.hi++jc x.hi++jc y.lo++jc x.hi++jc y.hi).getD (i_*6+j_) (.v (.bool false))):=
 ak call187 func187 (.nil) 
def XN(x y:Iv)(p:Nat)(hx:x.iu)(hy:y.iu)(iD:8<=p)(iq:p<=512):ig 106 [ix x,ix y,iP p] (ix (iI x y p)):=
 ak call106 func106 (ae [ag [iP p] (OI _),ah 15 (kT (p:Int)) (oM.2 ⟨aD,aD⟩),ag [ix x] (AD _ aE)]<|.w (x.all=true)
  (λk1=>ae [tB 19 (wm k1),ag [] oD]<|rQ (ix il) (ix (iI x y p)) (by unfold iI;simp[k1]))
  (λk1=>by
   have mE:=pO hx (bh k1);have v1:=mE.1;have v2:=mE.2.1;have v3:=mE.2.2;exact ae [tB 19 (wk (bh k1)),ag [ix y] (AD _ aE)]<|.w (y.all=true)
    (λk2=>ae [tB 24 (wm k2),ag [] oD]<|rQ (ix il) (ix (iI x y p)) (by unfold iI;simp[k1,k2]))
    (λk2=>by
     have mE:=pO hy (bh k2);have v4:=mE.1;have v5:=mE.2.1;have v6:=mE.2.2;exact ae [tB 24 (wk (bh k2)),ag [ix x,ix y] (XL _ _),.u 70,ah 32 (decide ((0:Int)<4)) aF,iX 0 4 aD,iX 0 2 aD,iX 0 4 aD,
      iX 1 2 aD,.c (AB x.lo y.lo p false aE aE aD aD),iX 0 4 aD,iX 0 2 aD,iX 0 4 aD,iX 1 2 aD,.c (AB x.lo y.lo p true aE aE aD aD)]<|.w ((jZ (lM x.lo y.lo) p false)=0)
      (λk3=>ae [tB 66 (bj k3)]<|.w ((jZ (lM x.lo y.lo) p true)=0)
       (λk4=>ae [tB 69 (bj k4),ah 73 ((0:Int)==0) aF,ag [im (jG (lM x.lo y.lo) p false),im (jG (lM x.lo y.lo) p false)] (AE _ _ (mD _ _ _ _ _ _ aD aD) (mD _ _ _ _ _ _ aD aD)),ag [im (jG (lM x.lo y.lo) p true),im (jG (lM x.lo y.lo) p true)] (zi _ _ (mD _ _ _ _ _ _ aD aD) (mD _ _ _ _ _ _ aD aD)),iC (0+1) aD,.k [9,69,68,8,7,6,2] [8,6],ah 32 (decide (((0+1):Int)<4)) aF,iX (0+1) 4 aD,iX 0 2 aD,iX (0+1) 4 aD,iX 1 2 aD,.c (AB x.lo y.hi p false aE aE aD aD),iX (0+1) 4 aD,iX 0 2 aD,iX (0+1) 4 aD,iX 1 2 aD,.c (AB x.lo y.hi p true aE aE aD aD)]<|.w ((jZ (lM x.lo y.hi) p false)=0)
        (λk5=>ae [tB 66 (bj k5)]<|.w ((jZ (lM x.lo y.hi) p true)=0)
         (λk6=>ae [tB 69 (bj k6),ai 73 (((0+1):Int)==0) aF,ag [im (OD x y p),im (jG (lM x.lo y.hi) p false)] (AE _ _ (qw (mD _ _ _ _ _ _ aD aD) (mD _ _ _ _ _ _ aD aD)) (mD _ _ _ _ _ _ aD aD)),ag [im (OE x y p),im (jG (lM x.lo y.hi) p true)] (zi _ _ (pF (mD _ _ _ _ _ _ aD aD) (mD _ _ _ _ _ _ aD aD)) (mD _ _ _ _ _ _ aD aD)),
          iC ((0+1)+1) aD,.k [9,69,68,8,7,6,2] [8,6],ah 32 (decide ((((0+1)+1):Int)<4)) aF,iX ((0+1)+1) 4 aD,iX 0 2 aD,iX ((0+1)+1) 4 aD,
          iX 1 2 aD,.c (AB x.hi y.lo p false aE aE aD aD),iX ((0+1)+1) 4 aD,iX 0 2 aD,iX ((0+1)+1) 4 aD,iX 1 2 aD,.c (AB x.hi y.lo p true aE aE aD aD)]<|.w ((jZ (lM x.hi y.lo) p false)=0)
          (λk7=>ae [tB 66 (bj k7)]<|.w ((jZ (lM x.hi y.lo) p true)=0)
           (λk8=>ae [tB 69 (bj k8),ai 73 ((((0+1)+1):Int)==0) aF,ag [im (ji (OD x y p) (jG (lM x.lo y.hi) p false)),im (jG (lM x.hi y.lo) p false)] (AE _ _ (qw (qw (mD _ _ _ _ _ _ aD aD) (mD _ _ _ _ _ _ aD aD)) (mD _ _ _ _ _ _ aD aD)) (mD _ _ _ _ _ _ aD aD)),ag [im (je (OE x y p) (jG (lM x.lo y.hi) p true)),im (jG (lM x.hi y.lo) p true)] (zi _ _ (pF (pF (mD _ _ _ _ _ _ aD aD) (mD _ _ _ _ _ _ aD aD)) (mD _ _ _ _ _ _ aD aD)) (mD _ _ _ _ _ _ aD aD)),
            iC (((0+1)+1)+1) aD,.k [9,69,68,8,7,6,2] [8,6],ah 32 (decide (((((0+1)+1)+1):Int)<4)) aF,iX (((0+1)+1)+1) 4 aD,iX 0 2 aD,
            iX (((0+1)+1)+1) 4 aD,iX 1 2 aD,.c (AB x.hi y.hi p false aE aE aD aD),iX (((0+1)+1)+1) 4 aD,iX 0 2 aD,
            iX (((0+1)+1)+1) 4 aD,iX 1 2 aD,.c (AB x.hi y.hi p true aE aE aD aD)]<|.w ((jZ (lM x.hi y.hi) p false)=0)
            (λk9=>ae [tB 66 (bj k9)]<|.w ((jZ (lM x.hi y.hi) p true)=0)
             (λk10=>ae [tB 69 (bj k10),ai 73 (((((0+1)+1)+1):Int)==0) aF,ag [im (ji (ji (OD x y p) (jG (lM x.lo y.hi) p false)) (jG (lM x.hi y.lo) p false)),im (jG (lM x.hi y.hi) p false)] (AE _ _ (qw (qw (qw (mD _ _ _ _ _ _ aD aD) (mD _ _ _ _ _ _ aD aD)) (mD _ _ _ _ _ _ aD aD)) (mD _ _ _ _ _ _ aD aD)) (mD _ _ _ _ _ _ aD aD)),ag [im (je (je (OE x y p) (jG (lM x.lo y.hi) p true)) (jG (lM x.hi y.lo) p true)),im (jG (lM x.hi y.hi) p true)] (zi _ _ (pF (pF (pF (mD _ _ _ _ _ _ aD aD) (mD _ _ _ _ _ _ aD aD)) (mD _ _ _ _ _ _ aD aD)) (mD _ _ _ _ _ _ aD aD)) (mD _ _ _ _ _ _ aD aD)),
              iC ((((0+1)+1)+1)+1) aD,.k [9,69,68,8,7,6,2] [8,6],ai 32 (decide ((((((0+1)+1)+1)+1):Int)<4)) aF]<|rR (ix (iI x y p)) (by
      exact .jb (by
       unfold iI;rw[bl (by simp[k1,k2])];rw[show me _ _ x y=_ from bn ⟨⟨k3,k4⟩,⟨k5,k6⟩,⟨k7,k8⟩,⟨k9,k10⟩⟩];rw[Wp,Wn];try rfl):E.le (ix (Iv.mk (ji (ji (ji (ji (jG (lM x.lo y.lo) p false) (jG (lM x.lo y.lo) p false)) (jG (lM x.lo y.hi) p false)) (jG (lM x.hi y.lo) p false)) (jG (lM x.hi y.hi) p false)) (je (je (je (je (jG (lM x.lo y.lo) p true) (jG (lM x.lo y.lo) p true)) (jG (lM x.lo y.hi) p true)) (jG (lM x.hi y.lo) p true)) (jG (lM x.hi y.hi) p true)) false)) (ix (iI x y p))))
             (λk10=>ae [tB 69 (bk k10),ag [] oD]<|rR (ix (iI x y p)) (by
      exact .jb (by
       unfold iI;rw[bl (by simp[k1,k2])];rw[show me _ _ x y=_ from bl (by rintro⟨⟨_,_⟩,⟨_,_⟩,⟨_,_⟩,⟨_,q⟩⟩;exact k10 q)]):E.le (ix il) (ix (iI x y p)))))
            (λk9=>ae [tB 66 (bk k9),ag [] oD]<|rR (ix (iI x y p)) (by
      exact .jb (by
       unfold iI;rw[bl (by simp[k1,k2])];rw[show me _ _ x y=_ from bl (by rintro⟨⟨_,_⟩,⟨_,_⟩,⟨_,_⟩,⟨q,_⟩⟩;exact k9 q)]):E.le (ix il) (ix (iI x y p)))))
           (λk8=>ae [tB 69 (bk k8),ag [] oD]<|rR (ix (iI x y p)) (by
      exact .jb (by
       unfold iI;rw[bl (by simp[k1,k2])];rw[show me _ _ x y=_ from bl (by rintro⟨⟨_,_⟩,⟨_,_⟩,⟨_,q⟩,⟨_,_⟩⟩;exact k8 q)]):E.le (ix il) (ix (iI x y p)))))
          (λk7=>ae [tB 66 (bk k7),ag [] oD]<|rR (ix (iI x y p)) (by
      exact .jb (by
       unfold iI;rw[bl (by simp[k1,k2])];rw[show me _ _ x y=_ from bl (by rintro⟨⟨_,_⟩,⟨_,_⟩,⟨q,_⟩,⟨_,_⟩⟩;exact k7 q)]):E.le (ix il) (ix (iI x y p)))))
         (λk6=>ae [tB 69 (bk k6),ag [] oD]<|rR (ix (iI x y p)) (by
      exact .jb (by
       unfold iI;rw[bl (by simp[k1,k2])];rw[show me _ _ x y=_ from bl (by rintro⟨⟨_,_⟩,⟨_,q⟩,⟨_,_⟩,⟨_,_⟩⟩;exact k6 q)]):E.le (ix il) (ix (iI x y p)))))
        (λk5=>ae [tB 66 (bk k5),ag [] oD]<|rR (ix (iI x y p)) (by
      exact .jb (by
       unfold iI;rw[bl (by simp[k1,k2])];rw[show me _ _ x y=_ from bl (by rintro⟨⟨_,_⟩,⟨q,_⟩,⟨_,_⟩,⟨_,_⟩⟩;exact k5 q)]):E.le (ix il) (ix (iI x y p)))))
       (λk4=>ae [tB 69 (bk k4),ag [] oD]<|rR (ix (iI x y p)) (by
      exact .jb (by
       unfold iI;rw[bl (by simp[k1,k2])];rw[show me _ _ x y=_ from bl (by rintro⟨⟨_,q⟩,⟨_,_⟩,⟨_,_⟩,⟨_,_⟩⟩;exact k4 q)]):E.le (ix il) (ix (iI x y p)))))
      (λk3=>ae [tB 66 (bk k3),ag [] oD]<|rR (ix (iI x y p)) (by
      exact .jb (by
       unfold iI;rw[bl (by simp[k1,k2])];rw[show me _ _ x y=_ from bl (by rintro⟨⟨q,_⟩,⟨_,_⟩,⟨_,_⟩,⟨_,_⟩⟩;exact k3 q)]):E.le (ix il) (ix (iI x y p))))))) 
def ai5(x y:Iv)(p:Nat)(hx:x.iu)(hy:y.iu)(iD:8<=p)(iq:p<=512):ig 107 [ix x,ix y,iP p] (ix (jj x y p)):=
 ak call107 func107 (ae [ag [iP p] (OI _),ah 15 (kT (p:Int)) (oM.2 ⟨aD,aD⟩),ag [ix x] (AD _ aE)]<|.w (x.all=true)
  (λk1=>ae [tB 19 (wm k1),ag [] oD]<|rQ (ix il) (ix (jj x y p)) (by unfold jj;simp[k1]))
  (λk1=>by
   have mE:=pO hx (bh k1);have v1:=mE.1;have v2:=mE.2.1;have v3:=mE.2.2;exact ae [tB 19 (wk (bh k1)),ag [ix y] (AD _ aE)]<|.w (y.all=true)
    (λk2=>ae [tB 24 (wm k2),ag [] oD]<|rQ (ix il) (ix (jj x y p)) (by unfold jj;simp[k1,k2]))
    (λk2=>by
     have mE:=pO hy (bh k2);have v4:=mE.1;have v5:=mE.2.1;have v6:=mE.2.2;exact ae [tB 24 (wk (bh k2)),ag [ix y] (ai8 _ aE)]<|.w ((mh y)=0)
      (λk3=>ae [tB 30 (bg k3),ag [] oD]<|rQ (ix il) (ix (jj x y p)) (by unfold jj;simp[k1,k2,k3]))
      (λk3=>by
       have y0:=YK hy k3;exact ae [tB 30 (bd k3),ag [ix x,ix y] (XL _ _),.u 70,ah 37 (decide ((0:Int)<4)) aF,iX 0 4 aD,iX 0 2 aD,iX 0 4 aD,iX 1 2 aD,.c (AA x.lo y.lo p false aE aE y0.1 aD aD),iX 0 4 aD,iX 0 2 aD,iX 0 4 aD,iX 1 2 aD,.c (AA x.lo y.lo p true aE aE y0.1 aD aD)]<|.w ((mS x.lo y.lo p false)=0)
        (λk4=>ae [tB 71 (bj k4)]<|.w ((mS x.lo y.lo p true)=0)
         (λk5=>ae [tB 74 (bj k5),ah 78 ((0:Int)==0) aF,ag [im (ks x.lo y.lo p false),im (ks x.lo y.lo p false)] (AE _ _ (oz aD aD) (oz aD aD)),ag [im (ks x.lo y.lo p true),im (ks x.lo y.lo p true)] (zi _ _ (oz aD aD) (oz aD aD)),iC (0+1) aD,.k [9,74,73,8,7,6,2] [8,6],ah 37 (decide (((0+1):Int)<4)) aF,iX (0+1) 4 aD,iX 0 2 aD,iX (0+1) 4 aD,iX 1 2 aD,.c (AA x.lo y.hi p false aE aE y0.2 aD aD),iX (0+1) 4 aD,iX 0 2 aD,iX (0+1) 4 aD,iX 1 2 aD,.c (AA x.lo y.hi p true aE aE y0.2 aD aD)]<|.w ((mS x.lo y.hi p false)=0)
          (λk6=>ae [tB 71 (bj k6)]<|.w ((mS x.lo y.hi p true)=0)
           (λk7=>ae [tB 74 (bj k7),ai 78 (((0+1):Int)==0) aF,ag [im (ji (ks x.lo y.lo p false) (ks x.lo y.lo p false)),im (ks x.lo y.hi p false)] (AE _ _ (qw (oz aD aD) (oz aD aD)) (oz aD aD)),ag [im (je (ks x.lo y.lo p true) (ks x.lo y.lo p true)),im (ks x.lo y.hi p true)] (zi _ _ (pF (oz aD aD) (oz aD aD)) (oz aD aD)),
            iC ((0+1)+1) aD,.k [9,74,73,8,7,6,2] [8,6],ah 37 (decide ((((0+1)+1):Int)<4)) aF,iX ((0+1)+1) 4 aD,iX 0 2 aD,iX ((0+1)+1) 4 aD,
            iX 1 2 aD,.c (AA x.hi y.lo p false aE aE y0.1 aD aD),iX ((0+1)+1) 4 aD,iX 0 2 aD,iX ((0+1)+1) 4 aD,iX 1 2 aD,.c (AA x.hi y.lo p true aE aE y0.1 aD aD)]<|.w ((mS x.hi y.lo p false)=0)
            (λk8=>ae [tB 71 (bj k8)]<|.w ((mS x.hi y.lo p true)=0)
             (λk9=>ae [tB 74 (bj k9),ai 78 ((((0+1)+1):Int)==0) aF,ag [im (ji (ji (ks x.lo y.lo p false) (ks x.lo y.lo p false)) (ks x.lo y.hi p false)),im (ks x.hi y.lo p false)] (AE _ _ (qw (qw (oz aD aD) (oz aD aD)) (oz aD aD)) (oz aD aD)),ag [im (je (je (ks x.lo y.lo p true) (ks x.lo y.lo p true)) (ks x.lo y.hi p true)),im (ks x.hi y.lo p true)] (zi _ _ (pF (pF (oz aD aD) (oz aD aD)) (oz aD aD)) (oz aD aD)),
              iC (((0+1)+1)+1) aD,.k [9,74,73,8,7,6,2] [8,6],ah 37 (decide (((((0+1)+1)+1):Int)<4)) aF,iX (((0+1)+1)+1) 4 aD,iX 0 2 aD,
              iX (((0+1)+1)+1) 4 aD,iX 1 2 aD,.c (AA x.hi y.hi p false aE aE y0.2 aD aD),iX (((0+1)+1)+1) 4 aD,iX 0 2 aD,
              iX (((0+1)+1)+1) 4 aD,iX 1 2 aD,.c (AA x.hi y.hi p true aE aE y0.2 aD aD)]<|.w ((mS x.hi y.hi p false)=0)
              (λk10=>ae [tB 71 (bj k10)]<|.w ((mS x.hi y.hi p true)=0)
               (λk11=>ae [tB 74 (bj k11),ai 78 (((((0+1)+1)+1):Int)==0) aF,ag [im (ji (ji (ji (ks x.lo y.lo p false) (ks x.lo y.lo p false)) (ks x.lo y.hi p false)) (ks x.hi y.lo p false)),im (ks x.hi y.hi p false)] (AE _ _ (qw (qw (qw (oz aD aD) (oz aD aD)) (oz aD aD)) (oz aD aD)) (oz aD aD)),ag [im (je (je (je (ks x.lo y.lo p true) (ks x.lo y.lo p true)) (ks x.lo y.hi p true)) (ks x.hi y.lo p true)),im (ks x.hi y.hi p true)] (zi _ _ (pF (pF (pF (oz aD aD) (oz aD aD)) (oz aD aD)) (oz aD aD)) (oz aD aD)),
                iC ((((0+1)+1)+1)+1) aD,.k [9,74,73,8,7,6,2] [8,6],ai 37 (decide ((((((0+1)+1)+1)+1):Int)<4)) aF]<|rR (ix (jj x y p)) (by
      exact .jb (by
       unfold jj;rw[bl (by simp[k1,k2,k3])];rw[show me _ _ x y=_ from bn ⟨⟨k4,k5⟩,⟨k6,k7⟩,⟨k8,k9⟩,⟨k10,k11⟩⟩];rw[Wp,Wn];try rfl):E.le (ix (Iv.mk (ji (ji (ji (ji (ks x.lo y.lo p false) (ks x.lo y.lo p false)) (ks x.lo y.hi p false)) (ks x.hi y.lo p false)) (ks x.hi y.hi p false)) (je (je (je (je (ks x.lo y.lo p true) (ks x.lo y.lo p true)) (ks x.lo y.hi p true)) (ks x.hi y.lo p true)) (ks x.hi y.hi p true)) false)) (ix (jj x y p))))
               (λk11=>ae [tB 74 (bk k11),ag [] oD]<|rR (ix (jj x y p)) (by
      exact .jb (by
       unfold jj;rw[bl (by simp[k1,k2,k3])];rw[show me _ _ x y=_ from bl (by rintro⟨⟨_,_⟩,⟨_,_⟩,⟨_,_⟩,⟨_,q⟩⟩;exact k11 q)]):E.le (ix il) (ix (jj x y p)))))
              (λk10=>ae [tB 71 (bk k10),ag [] oD]<|rR (ix (jj x y p)) (by
      exact .jb (by
       unfold jj;rw[bl (by simp[k1,k2,k3])];rw[show me _ _ x y=_ from bl (by rintro⟨⟨_,_⟩,⟨_,_⟩,⟨_,_⟩,⟨q,_⟩⟩;exact k10 q)]):E.le (ix il) (ix (jj x y p)))))
             (λk9=>ae [tB 74 (bk k9),ag [] oD]<|rR (ix (jj x y p)) (by
      exact .jb (by
       unfold jj;rw[bl (by simp[k1,k2,k3])];rw[show me _ _ x y=_ from bl (by rintro⟨⟨_,_⟩,⟨_,_⟩,⟨_,q⟩,⟨_,_⟩⟩;exact k9 q)]):E.le (ix il) (ix (jj x y p)))))
            (λk8=>ae [tB 71 (bk k8),ag [] oD]<|rR (ix (jj x y p)) (by
      exact .jb (by
       unfold jj;rw[bl (by simp[k1,k2,k3])];rw[show me _ _ x y=_ from bl (by rintro⟨⟨_,_⟩,⟨_,_⟩,⟨q,_⟩,⟨_,_⟩⟩;exact k8 q)]):E.le (ix il) (ix (jj x y p)))))
           (λk7=>ae [tB 74 (bk k7),ag [] oD]<|rR (ix (jj x y p)) (by
      exact .jb (by
       unfold jj;rw[bl (by simp[k1,k2,k3])];rw[show me _ _ x y=_ from bl (by rintro⟨⟨_,_⟩,⟨_,q⟩,⟨_,_⟩,⟨_,_⟩⟩;exact k7 q)]):E.le (ix il) (ix (jj x y p)))))
          (λk6=>ae [tB 71 (bk k6),ag [] oD]<|rR (ix (jj x y p)) (by
      exact .jb (by
       unfold jj;rw[bl (by simp[k1,k2,k3])];rw[show me _ _ x y=_ from bl (by rintro⟨⟨_,_⟩,⟨q,_⟩,⟨_,_⟩,⟨_,_⟩⟩;exact k6 q)]):E.le (ix il) (ix (jj x y p)))))
         (λk5=>ae [tB 74 (bk k5),ag [] oD]<|rR (ix (jj x y p)) (by
      exact .jb (by
       unfold jj;rw[bl (by simp[k1,k2,k3])];rw[show me _ _ x y=_ from bl (by rintro⟨⟨_,q⟩,⟨_,_⟩,⟨_,_⟩,⟨_,_⟩⟩;exact k5 q)]):E.le (ix il) (ix (jj x y p)))))
        (λk4=>ae [tB 71 (bk k4),ag [] oD]<|rR (ix (jj x y p)) (by
      exact .jb (by
       unfold jj;rw[bl (by simp[k1,k2,k3])];rw[show me _ _ x y=_ from bl (by rintro⟨⟨q,_⟩,⟨_,_⟩,⟨_,_⟩,⟨_,_⟩⟩;exact k4 q)]):E.le (ix il) (ix (jj x y p)))))))) 
def I5(n e:Int)(h1:n.natAbs<4294967296)(h2:-1000<=e)(h3:e<=1000):ig 6 [iP n,iP e] (im (lY n e)):=by
 have hrg:nu (canon (Dy.neg (jY n)) (Dy.m (jY n)) ((Dy.e (jY n))+e)):=by rw[Ra];exact(A4 h1 h2 h3).range
 exact ak call6 func6 (ae [ag [iP n] (OX _ aD),ag [im (jY n),iP e] (ajI _ _ (E7 aD) aD aD hrg)]<|rQ (im (canon (Dy.neg (jY n)) (Dy.m (jY n)) ((Dy.e (jY n))+e))) (im (lY n e)) (by rw[Ra])) 
def Ff(n e:Int)(h1:n.natAbs<4294967296)(h2:-1000<=e)(h3:e<=1000):ig 20 [iP n,iP e] (ix (iV (lY n e))):=by
 have hv:=A4 h1 h2 h3;exact ak call20 func20 (af [.c (I5 n e aD aD aD),.c (JE (lY n e))]) 
def afS(x y:Iv)(hx:x.iu)(hy:y.iu):ig 23 [ix x,ix y] (bP (pN x y)):=by
 obtain⟨v1,v2⟩:=hx.kn;obtain⟨v3,v4⟩:=hy.kn;exact ak call23 func23 (ae [.c (si x aE),.c (si y aE)]<|.w (y.all=true)
  (λk1=>ae [tB 14 k1]<|rQ (bP true) (bP (pN x y)) (by unfold pN;simp[k1]))
  (λk1=>ae [tB 14 (bh k1)]<|.w (x.all=true)
   (λk2=>ae [tB 17 k2]<|rQ (bP false) (bP (pN x y)) (by unfold pN;simp[k1,k2]))
   (λk2=>ae [tB 17 (bh k2),ag [im y.lo,im x.lo] (nK _ _ aE aE)]<|.w ((jA y.lo x.lo)<=0)
    (λk3=>ae [tB 25 (bq k3),ag [im x.hi,im y.hi] (nK _ _ aE aE)]<|rQ (bP (decide ((jA x.hi y.hi)<=0))) (bP (pN x y)) (by unfold pN;simp[k1,k2,k3]))
    (λk3=>ae [tB 25 (bt k3)]<|rQ (bP false) (bP (pN x y)) (by unfold pN;simp[k1,k2,k3]))))) 
def SZ{m x:List (List Iv)}{h:Iv}{n k p:Nat}(ga:ke m n n)(hh:h.iu)(hk:k<=1000)(iD:8<=p)(iq:p<=512)(hx:tp m h k p=some x):ke x n n:=by
 unfold tp at hx;cases hr:sG m h k p with
 |none=>rw[hr]at hx;cases hx
 |some e=>
  rw[hr,dF]at hx;simp only at hx;obtain⟨_,qc,_⟩:=(JO m h n n k p ga hh hk iD iq).1 e hr;have gs:=AM (h:=h) (p:=p) ga aD aD k;split at hx
  .cases hx
  .cases hx;refine⟨by rw[dI];exact gs.jm,λr hr=>?_,λr hr y hy=>?_,gs.n1,gs.n8,gs.k1,gs.k8⟩
   .obtain ⟨r',h1,rfl⟩:=cR.1 hr;rw[dI];exact gs.row r' h1
   .obtain ⟨r',h1,rfl⟩:=cR.1 hr;obtain⟨y',h2,rfl⟩:=cR.1 hy;exact rn (gs.ok r' h1 y' h2) qc aD aD 
def ag0{m:List (List Iv)}{n k:Nat}(g:ke m n k)(i j:Nat):((m.getD i []).getD j il).iu:=by
 by_cases hi:i<m.length
 .rw [tY (d:=[]) hi];by_cases hj:j<m[i].length
  .rw [tY hj];exact g.ok _ (cO hi) _ (cO hj)
  .rw [bu,cw aD];exact mA
 .rw [bu (l:=m),cw aD];exact mA
def zG:List (List Iv):=[[iV (lY 0 0),iV (lY 1 0)],[iV (lY 0 0),iV (lY 0 0)]]
def GF:Iv:=(iV (lY 1 (-1)))
def rT:List (List Iv):=[[⟨⟨false,562735496296199119,-59⟩,⟨false,590186008310647857,-59⟩,false⟩,⟨⟨false,274505120144487375,-59⟩,⟨false,301955632158936113,-59⟩,false⟩],[⟨⟨true,439208192231179801,-64⟩,⟨false,439208192231179801,-64⟩,false⟩,⟨⟨false,562735496296199119,-59⟩,⟨false,590186008310647857,-59⟩,false⟩]]
def Qq:ke zG 2 2 where
 jm:=rfl
 row:=by intro r hr;simp only[zG,de,amY,gx]at hr;rcases hr with rfl|rfl<;>rfl
 ok:=by
  intro r hr x hx;simp only[zG,de,amY,gx]at hr;rcases hr with rfl|rfl<;>simp only[de,amY,gx]at hx<;>rcases hx with rfl|rfl<;>exact qO (A4 aF aF aF)
 n1:= aF 
 n8:= aF 
 k1:= aF 
 k8:= aF 
def Qp:GF.iu:=qO (A4 aF aF aF)
def Qr:tp zG GF 2 60=some rT:= aG 
def aak:ig 21 [iU zG,ix GF,iP 2,iP 60] (.iB [iU rT,iP 0]):=
 (LI zG GF 2 2 60 Qq Qp rfl aF aF aF aF).1 rT Qr
def aal:ke rT 2 2:=SZ Qq Qp aF aF aF Qr
def Ck:Iv:=(rT.getD 0 []).getD 1 il
def Qs:Ck.iu:=ag0 aal 0 1
def aaj:ig 22 [.agg [iP 11,iP 21],im Ck.hi] (.iB [iP (mz 11 21 Ck.hi),iP 0]):=
 OL 11 21 Ck.hi Qs.kn.2 aF aF aF aF aF 
def agN(a b:List Iv):E.le (.sl true 2 1 λi_ j_=>[iz a,iz b].getD (i_*1+j_) (.v (.bool false))) (iU [a,b]):=.sl λi j hi hj=>by
 obtain rfl:j=0:= aD ;obtain rfl|rfl:i=0\/i=1:= aD 
 .exact ⟨.refl _,rfl⟩
 .exact ⟨.refl _,rfl⟩
def afN:(Iv.mk (lY 120 (-8)) (lY 135 (-8)) false).iu:=.inr ⟨rfl,A4 (n:=120) (e:=-8) aF aF aF,A4 (n:=135) (e:=-8) aF aF aF,aP⟩
def afJ:pN Ck (Iv.mk (lY 120 (-8)) (lY 135 (-8)) false)=true:= aG 
def Qt : ig 4 [] (bP true):=by
 have l1:rT.length=2:=rfl;have l2:(rT.getD 0 []).length=2:=rfl;exact ak call4 func4 (ae [.c (Ff 0 0 aD aD aD),.c (Ff 1 0 aD aD aD),.o 8 (.e (xO _ _):aj (.sl true 2 7 λi_ j_=>(iZ (iV (lY 0 0))++iZ (iV (lY 1 0))).getD (i_*7+j_) (.v (.bool false))) (iz [iV (lY 0 0),iV (lY 1 0)])),.c (Ff 0 0 aD aD aD),.c (Ff 0 0 aD aD aD),.o 11 (.e (xO _ _):aj (.sl true 2 7 λi_ j_=>(iZ (iV (lY 0 0))++iZ (iV (lY 0 0))).getD (i_*7+j_) (.v (.bool false))) (iz [iV (lY 0 0),iV (lY 0 0)])),.o 12 (.e (agN _ _):aj (.sl true 2 1 λi_ j_=>[iz [iV (lY 0 0),iV (lY 1 0)],iz [iV (lY 0 0),iV (lY 0 0)]].getD (i_*1+j_) (.v (.bool false))) (iU zG)),.c (Ff 1 (-1) aD aD aD),ag [iU zG,ix (iV (lY 1 (-1))),iP 2,iP 60] aak,ai 20 ((0:Int) != 0) aF,ai 24 ((rT.length:Int) != 2) aG,iX 0 (rT.length) aD,ai 31 (((rT.getD 0 []).length:Int) != 2) aG,iX 0 (rT.length) aD,
  iX 1 ((rT.getD 0 []).length) aD,ag [.agg [iP 11,iP 21],im (((rT.getD 0 []).getD 1 il).hi)] aaj,ah 45 ((0:Int)==0) aF,ah 48 (decide ((mz 11 21 Ck.hi)<=0)) aG,iX 0 (rT.length) aD,iX 1 ((rT.getD 0 []).length) aD,.c (I5 120 (-8) aD aD aD),.c (I5 135 (-8) aD aD aD),.c (afS ((rT.getD 0 []).getD 1 il) (Iv.mk (lY 120 (-8)) (lY 135 (-8)) false) Qs afN)]<|rQ (bP (pN ((rT.getD 0 []).getD 1 il) (Iv.mk (lY 120 (-8)) (lY 135 (-8)) false))) (bP true) (congrArg bP afJ)) 
def ajR(d:Dy)(hd:d.iu->False)(h1:-10000000<=d.e)(h2:d.e<=10000000):ig 28 [im d] (bP false):=by
 rw[<-acD];exact ajP d.raw ⟨kS _,by show -9223372036854775808<=d.e;omega,by show d.e<=9223372036854775807;omega⟩ false ⟨λh=>absurd h aF,λh=>absurd (show d.iu by have:=RD.Ok.valid h;rwa[Dy.OO]at this) λq=>hd q⟩
def aiP(k:Int)(h1:-32768<=k)(h2:k<=32768):ig 78 [iP k] (bP true):=
 ak call78 func78 (af [tT 4 ((-32768)<=k) aD,tT 7 (k<=32768) aD]) 
def aiN(d:Dy)(hv:d.iu):ig 79 [im d] (.iB [im d,iP 0]):=
 ak call79 func79 (af [ag [im d] (BS _ hv)]) 
def aiM(d:Dy)(hv:d.iu->False)(h1:-10000000<=d.e)(h2:d.e<=10000000):ig 79 [im d] (.iB [im iQ,iP 9]):=
 ak call79 func79 (af [ag [im d] (ajR _ hv h1 h2),.o 7 (.e tc:aj (.agg aq) (im iQ))]) 
def XG(d:Dy)(k:Int)(hv:d.iu)(lW:-32768<=k)(qY:k<=32768):ig 26 [im d,iP k] (.iB [im (sI d k),iP (vU d k)]):=by
 have hl:=hv.len;have he:=hv.exp;have Mu:ig 79 [im (canon d.neg d.m (d.e+k))] (.iB [im (sI d k),iP (vU d k)]):=by
  unfold sI vU;by_cases h:nu (canon d.neg d.m (d.e+k))
  .rw [bn h,bn h];exact aiN _ ⟨qF _ _ _,h⟩
  .rw [bl h,bl h];have hb:=KT (kS d.m) (show(ij d.m).length<=256 by omega) d.neg (d.e+k) aD aD;rw[jR]at hb;exact aiM _ (λhv=>h hv.range) aD aD 
 exact ak call26 func26 (af [ag [im d] (BS _ hv),ag [iP k] (aiP _ aD aD),iC (d.e+k) aD,ag [bP d.neg,iw (ij d.m),iP (d.e+k)] (BQ _ _ _ aD aD aD),ag [im (canon d.neg d.m (d.e+k))] Mu]) 
def Sj(d:Dy)(K:Nat)(y:Iv)(x:Nat):PS:=⟨57,true,[(7,.e (iP ((x+1:Nat):Int))),(6,.box 6 0),(5,.box 5 0),(4,.box 4 0),(3,.e (iP K)),(2,.box 2 0)],[(6,.cells 33 (iZ (qp y x))),(5,.cells 33 (iZ (vc y x))),(4,.cells 33 (iZ y)),(2,.cells 33 ar)]⟩
def Sk(d:Dy)(K:Nat)(y:Iv)(x:Nat):PS:=⟨57,true,[(8,.e (iP x)),(5,.box 5 0),(3,.e (iP K)),(2,.box 2 0)],[(5,.cells 33 (iZ (tV y x))),(2,.cells 33 ar)]⟩
def ai7(x:Iv)(k:Int)(hx:x.iu)(lW:-32768<=k)(qY:k<=32768):ig 50 [ix x,iP k] (ix (uH x k)):=by
 obtain⟨w1,w2⟩:=hx.kn;exact ak call50 func50 (ae [.c (AD x aE)]<|.w (x.all=true)
  (λk1=>ae [tB 10 (wm k1),.c oD]<|rQ (ix il) (ix (uH x k)) (by unfold uH;simp[k1]))
  (λk1=>ae [tB 10 (wk (bh k1)),tF 14 (k<(-32768)) aD,tF 18 (32768<k) aD,.c (XG x.lo k w1 aD aD),.c (XG x.hi k w2 aD aD),.c (XM (sI x.lo k) (sI x.hi k) (vU x.lo k) (vU x.hi k))]<|rQ (ix (mU (sI x.lo k) (vU x.lo k) (sI x.hi k) (vU x.hi k))) (ix (uH x k)) (by unfold uH;simp[k1]))) 
def Dj(n:Int)(h:n.natAbs<4294967296):ig 196 [iP n] (ix (iN n)):=
 ak call196 func196 (ae [ag [iP n] (OX _ aD),.c (JE (jY n))]<|rR (ix (iN n)) (.jb rfl:E.le (ix (iV (jY n))) (ix (iN n)))) 
def XQ(x y:Iv)(hx:x.iu)(hy:y.iu):ig 200 [ix x,ix y] (ix (jL x y 320)):=
 ak call200 func200 (af [.c (ai4 x y 320 aE aE aD aD)]) 
def JF(x y:Iv)(hx:x.iu)(hy:y.iu):ig 199 [ix x,ix y] (ix (iI x y 320)):=
 ak call199 func199 (af [.c (XN x y 320 aE aE aD aD)]) 
def XR(x y:Iv)(hx:x.iu)(hy:y.iu):ig 198 [ix x,ix y] (ix (jj x y 320)):=
 ak call198 func198 (af [.c (ai5 x y 320 aE aE aD aD)]) 
def ai9(x:Iv)(hx:x.iu):ig 201 [ix x] (ix (uS x)):=
 ak call201 func201 (.w (x.all=true)
  (λk1=>ae [tB 5 k1]<|rQ (ix x) (ix (uS x)) (by unfold uS;simp[k1]))
  (λk1=>ae [tB 5 (bh k1),.c (ai6 x hx (bh aE)),ag [im (kO x)] (OY _)]<|rQ (ix (Iv.mk (jf (kO x)) (kO x) false)) (ix (uS x)) (by unfold uS;simp[k1]))) 
def ajb(d:Dy)(h:d.m=0):ig 114 [im d] (ix (iN 1)):=
 ak call114 func114 (af [ah 12 (((ij d.m).length:Int)==0) (sk (qg.2 h)),.c (Dj 1 aD)]) 
def aja(d:Dy)(hd:d.iu)(h:d.m≠0)(K:Nat)(hK:max 0 (d.jd+16)=(K:Int))(y:Iv)(hy:(uH (iV d) (0-(K:Int)))=y):ig 114 [im d] (ix (tV y K)):=by
 have hT:=DE h;have yH:=hd.bits;have amy:=hd.exp;have vy:y.iu:=by rw[<-hy];exact YB (qO hd) _
 exact ak call114 func114 (af [ai 12 (((ij d.m).length:Int)==0) (ou (λq=>h (qg.1 q))),ag [im d] (F0 _ hd.w8),iC ((Dy.jd d)+16) aD,.o 17 (an (if((Dy.jd d)+16)>0 then((Dy.jd d)+16)else 0) K aD),.c (JE d),iC (0-(K:Int)) aD,.c (ai7 (iV d) (0-(K:Int)) (qO hd) aD aD),.o 22 (.e (.jb (by rw[hy])):aj (ix (uH (iV d) (0-(K:Int)))) (ix y)),.c (Dj 1 aD),.c (Dj 1 aD),.s (Sp.jP (Sj d K y) 0 20 aD (λx hx lp=>by
    exact iM (ae [tT 26 (((x+1:Nat):Int)<=20) aD,.c (JF (qp y x) y (Ed _ _) aE),.c (Dj ((x+1:Nat):Int) aD),.c (XR (iI (qp y x) y 320) (iN ((x+1:Nat):Int)) (lX _ _ aF aF) (N5 aD)),.c (XQ (vc y x) (jj (iI (qp y x) y 320) (iN ((x+1:Nat):Int)) 320) (Cw _ _) (pd _ _ aF aF)),iC (((x+1:Nat):Int)+1) aD]<|.e (af [.b 6 (.jb rfl:Bx.le (.cells 33 (iZ (jj (iI (qp y x) y 320) (iN ((x+1:Nat):Int)) 320))) (.cells 33 (iZ (qp y (x+1))))),.b 5 (.jb rfl:Bx.le (.cells 33 (iZ (jL (vc y x) (jj (iI (qp y x) y 320) (iN ((x+1:Nat):Int)) 320) 320))) (.cells 33 (iZ (vc y (x+1)))))])) aG)
  (λhx=>by
    exact iM (af [tF 26 (((20+1:Nat):Int)<=20) aD]) aG) aK:jO 7 f114 (Sj d K y 0) (.exit 0) ⟨57,true,[(6,.box 6 0),(5,.box 5 0),(4,.box 4 0),(3,.e (iP K)),(2,.box 2 0)],[(6,.cells 33 (iZ (qp y 20))),(5,.cells 33 (iZ (vc y 20))),(4,.cells 33 (iZ y)),(2,.cells 33 ar)]⟩) (af [.o 7 (an 1 ((0+1:Nat):Int) aS),.b 6 (.jb rfl:Bx.le (.cells 33 (iZ (iN 1))) (.cells 33 (iZ (qp y 0)))),.b 5 (.jb rfl:Bx.le (.cells 33 (iZ (iN 1))) (.cells 33 (iZ (vc y 0))))]),.c (JF (qp y 20) y (Ed _ _) aE),.c (Dj 21 aD),.c (XR (iI (qp y 20) y 320) (iN 21) (lX _ _ aF aF) (N5 aD)),.c (Dj 2 aD),.c (JF (jj (iI (qp y 20) y 320) (iN 21) 320) (iN 2) (pd _ _ aF aF) (N5 aD)),.c (ai9 (iI (jj (iI (qp y 20) y 320) (iN 21) 320) (iN 2) 320) (lX _ _ aF aF)),.c (XQ (vc y 20) (uS (iI (jj (iI (qp y 20) y 320) (iN 21) 320) (iN 2) 320)) (Cw _ _) (KH (lX _ _ aF aF))),.s (Sp.jP (Sk d K y) 0 K aD (λx hx lp=>by
    exact iM (ae [tT 50 ((x:Int)<K) aD,.c (JF (tV y x) (tV y x) (Hl _ _) (Hl _ _)),iC ((x:Int)+1) aD]<|.e (af [.b 5 (.jb rfl:Bx.le (.cells 33 (iZ (iI (tV y x) (tV y x) 320))) (.cells 33 (iZ (tV y (x+1)))))])) aG)
  (λhx=>by
    exact iM (af [tF 50 ((K:Int)<K) aD]) aG) aK:jO 13 f114 (Sk d K y 0) (.exit 2) ⟨57,true,[(5,.box 5 0),(2,.box 2 0)],[(5,.cells 33 (iZ (tV y K))),(2,.cells 33 ar)]⟩) (af [.b 5 (.jb rfl:Bx.le (.cells 33 (iZ (jL (vc y 20) (uS (iI (jj (iI (qp y 20) y 320) (iN 21) 320) (iN 2) 320)) 320))) (.cells 33 (iZ (tV y 0))))])]) 
def XS(d:Dy)(hd:d.iu):∃ X,X.iu/\nI (EQ d.q) X/\ig 114 [im d] (ix X):=by
 by_cases h:d.m=0
 .refine ⟨iN 1,rf 1 aF,?_,ajb d h⟩;have:d.q=0:=by rw[pU,h];simp
  rw[this];exact nI.Od (k:=0) λN _=>by rw[PY];exact tI 1
 .obtain ⟨K,hK⟩:∃ K:Nat,max 0 (d.jd+16)=(K:Int):=⟨(max 0 (d.jd+16)).toNat,aD⟩
  have vy:(uH (iV d) (0-(K:Int))).iu:=YB (qO hd) _;have hy:=akz (Dg d) (0-(K:Int));have hq:=aiu h;have hp:P2 d.jd*P2 (0-(K:Int))<=P2 (-1):=by rw[<-tO];exact ZT aD 
  have hm:P2 (-1)=1/2:= aP ;have aeR:jz (d.q*P2 (0-(K:Int)))*2<=1:=by
   rw[xt];have e:jz (P2 (0-(K:Int)))=P2 (0-(K:Int)):=by unfold jz;rw[bn (bH (pr _))]
   rw[e];have:=cI hq (bH (pr (0-(K:Int))));rw[hm]at hp
   grind
  have hl:=Sm vy hy aeR K;have e:d.q*P2 (0-(K:Int))*((2^K:Nat):Rat)=d.q:=by
   rw[<-uN,dW,<-tO,show(0-(K:Int))+(K:Int)=0 by omega,DM,Rat.mul_one]
  rw[e]at hl;exact⟨_,Hl _ K,hl,aja d hd h K hK _ rfl⟩
noncomputable def pZ(o:lO)(v a b da db:Iv)(p:Nat):Iv:=
 if o.kind=1 then iN 0 else if o.kind=3 then jL da db p else if o.kind=4 then lk da db p else if o.kind=5 then jL (iI da b p) (iI a db p) p
 else if o.kind=6 then jj (lk da (iI v db p) p) b p else if o.kind=7 then nL da
 else if o.kind=8 then(if o.n=0 then iI (iN 0) da p else iI (iI (iN (o.n:Int)) (nX a (o.n-1) p) p) da p)
 else if o.kind=9 then iI v da p else if o.kind=10 then jj da a p
 else if o.kind=11 then iI (Bd a p) da p else if o.kind=12 then nL (iI (Be a p) da p)else if o.kind=13 then jj da (uH v 1) p else il
noncomputable def ru(o:lO)(v:Iv)(l c:List Iv)(p:Nat):Iv:=
 if v.all then il else pZ o v (l.getD o.a il) (l.getD o.b il) (c.getD o.a il) (c.getD o.b il) p
def ni(n i:Nat):Nat->List Iv
 | 0=>[]
 |k+1=>ni n i k++[if k=i then iN 1 else iN 0]
noncomputable def jW(t:mB)(l:List Iv)(i p:Nat):Nat->List Iv
 | 0=>ni t.iW i t.iW
 |k+1=>jW t l i p k++[ru (t.ik.getD k iF) (l.getD (t.iW+k) il) l (jW t l i p k) p]
noncomputable def mT(t:mB)(xs:List Iv)(p q i:Nat):Iv:=(jW t (iS t.ik xs p t.ik.length) i p t.ik.length).getD (t.iL.getD q 0) il
def lv(n:Nat)(F:Nat->Nat->Iv)(i k:Nat):List (List Iv):=(List.range n).map λq=>(List.range (if q<k then i+1 else i)).map (F q)
noncomputable def qN(t:mB)(xs:List Iv)(p m:Nat):List (List Iv):=lv t.iL.length (mT t xs p) m 0
def Jj{n:Nat}(h:n<4294967296):(iN (n:Int)).iu:=qO (yW n h)
def Jk:(iN 0).iu:=Jj (n:=0) aF 
def NY:(iN 1).iu:=Jj (n:=1) aF 
def uA{c:Prop}[Decidable c]{x y:Iv}(hx:x.iu)(hy:y.iu):(if c then x else y).iu:=by
 by_cases h:c
 .rwa [bn h]
 .rwa [bl h]
def ab2(o:lO){v a b da db:Iv}(hv:v.iu)(hd:da.iu)(he:db.iu){p:Nat}(hp:1<=p)(iq:p<=4096):(pZ o v a b da db p).iu:=by
 unfold pZ;exact uA Jk<|uA (rn hd he hp iq)<|uA (rn hd (sE he) hp iq)<|uA (rn (lX _ _ hp iq) (lX _ _ hp iq) hp iq) <|
  uA (pd _ _ hp iq)<|uA (sE hd)<|uA (uA (lX _ _ hp iq) (lX _ _ hp iq))<|uA (lX _ _ hp iq)<|uA (pd _ _ hp iq) <|
  uA (lX _ _ hp iq)<|uA (sE (lX _ _ hp iq))<|uA (pd _ _ hp iq) mA
def Gh(n i:Nat):∀ k,(ni n i k).length=k
 | 0=>rfl
 |k+1=>by simp only[ni,cJ,Gh n i k,df,fS]
def Zy(n i:Nat):∀ k,nP (ni n i k)
 | 0=>λ_=>mA
 |k+1=>(Zy n i k).push (by split;exact NY;exact Jk)
def D0(t:mB)(l:List Iv)(i p:Nat):∀ k,(jW t l i p k).length=t.iW+k
 | 0=>Gh _ _ _
 |k+1=>by simp only[jW,cJ,D0 t l i p k,df,fS];omega
def ab3(o:lO){v:Iv}(hv:v.iu){l c:List Iv}(hc:nP c){p:Nat}(hp:1<=p)(iq:p<=4096):(ru o v l c p).iu:=by
 unfold ru;split
 .exact mA
 .exact ab2 o hv (hc _) (hc _) hp iq
def D1(t:mB){l:List Iv}(hl:nP l)(i:Nat){p:Nat}(hp:1<=p)(iq:p<=4096):∀ k,nP (jW t l i p k)
 | 0=>Zy _ _ _
 |k+1=>(D1 t hl i hp iq k).push (ab3 _ (hl _) (D1 t hl i hp iq k) hp iq)
def af6(t:mB){xs:List Iv}(h:nP xs){p:Nat}(hp:1<=p)(iq:p<=4096)(q i:Nat):(mT t xs p q i).iu:=D1 t (zA t.ik h hp iq _) i hp iq _ _
def YX(n:Nat)(F:Nat->Nat->Iv)(i k:Nat):(lv n F i k).length=n:=by simp[lv]
def Dw{n:Nat}{F:Nat->Nat->Iv}{i k q:Nat}(h:q<n):(lv n F i k).getD q []=(List.range (if q<k then i+1 else i)).map (F q):=by
 simp[lv,bu,h]
def ak7(n:Nat)(F:Nat->Nat->Iv)(i:Nat):lv n F i n=lv n F (i+1) 0:=by
 unfold lv;apply ev;intro q hq;rw[bn (cz.1 hq),bl (bO _)]
def ak8{T1 T0 n n':Nat}{F:Nat->Nat->Iv}(hn:n=n'):Bx.le (.jm true T1 T0 n 7 (λ_=>0) (λ_ _ _=>.any) .none) (.jm true T1 T0 n' 7 (jU (lv n' F 0 0)) (kQ (lv n' F 0 0)) .none):=by
 subst hn;refine .jm rfl (λk hk=>?_) (λk i j hk hi hj=>absurd hi (bO i));show 0=((lv n F 0 0).getD k []).length;rw[Dw hk];simp
def ala{T1 T0 n n' m x k:Nat}{F:Nat->Nat->Iv}{y:Iv}(hn:n=n')(hm:m=n)(hx:k<n)(hy:y=F k x):
 Bx.le (.jm true T1 T0 n 7 (λq=>if q=k then jU (lv m F x k) q+[y].length else jU (lv m F x k) q)
  (λq i j=>if q=k then(if i<jU (lv m F x k) q then kQ (lv m F x k) q i j else(E.jH (iz [y])) (i-jU (lv m F x k) q) j)else kQ (lv m F x k) q i j) .none)
  (.jm true T1 T0 n' 7 (jU (lv m F x (k+1))) (kQ (lv m F x (k+1))) .none):=by
 subst hn hm hy;have hl:∀ q,q<m->(if q=k then jU (lv m F x k) q+[F k x].length else jU (lv m F x k) q)=jU (lv m F x (k+1)) q:=by
  intro q hq;simp only[jU,Dw hq,dI,eG,df,fS];by_cases h1:q=k
  .subst h1;simp
  .rw [bl h1];by_cases h2:q<k
   .rw [bn h2,bn aD]
   .rw [bl h2,bl aD]
 refine .jm rfl hl (λq i j hq hi hj=>⟨.jb ?_,C0 _ _ hj⟩);have ml:=hi;rw[hl q hq]at ml;simp only[jU,Dw hq,dI,eG]at ml;simp only[jU,kQ,Dw hq,dI,eG];rw[s7 ml];by_cases h1:q=k
 .subst h1;rw[bn rfl,bl (e9 q)];rw[bn (amS q)]at ml;by_cases h2:i<x
  .rw [bn h2,s7 h2]
  .have:i=x:= aD ;subst this;rw[bl h2,di];rfl
 .rw [bl h1];have e:(if q<k then x+1 else x)=if q<k+1 then x+1 else x:=by
   by_cases h2:q<k
   .rw [bn h2,bn aD]
   .rw [bl h2,bl aD]
  rw[e,s7 ml]
def ak9{T1 T0 n n' m x:Nat}{F:Nat->Nat->Iv}(hn:n=n'):Bx.le (.jm true T1 T0 n 7 (jU (lv m F x m)) (kQ (lv m F x m)) .none) (.jm true T1 T0 n' 7 (jU (lv m F (x+1) 0)) (kQ (lv m F (x+1) 0)) .none):=by
 subst hn;rw[ak7];exact .refl _
def OJ(r:List Iv)(i p:Nat):Nat->Dy
 | 0=>iQ
 |k+1=>if k=i then OJ r i p k else jG (iJ (OJ r i p k) (kO (r.getD k il))) p true
def FL(r:List Iv)(i p k:Nat):Bool:=decide (k=i)||decide (jZ (iJ (OJ r i p k) (kO (r.getD k il))) p true=0)
def Cn(m:List (List Iv)):Bool:=(List.range m.length).any λi=>mY (m.getD i [])
def B0:List (Int×FuncId×List FuncId):=[(1,307,[]),(3,308,[73]),(4,309,[131]),
 (7,310,[]),(5,311,[73,129]),(6,312,[70,131,129]),
 (8,313,[129]),(9,314,[129]),(10,315,[70]),
 (11,316,[129]),(12,317,[129]),(13,318,[70])]
def rh(w:World)(b:Nat)(l:List MapEntry):World:={ w with heap:=w.heap.setIfInBounds b (.map l.toArray l.length) }
def Xl{w:World}{b:Nat}(h:b<w.heap.size)(l:List MapEntry):(rh w b l).heap[b]? = some (.map l.toArray l.length):=by simp[rh,h]
def Xm{w:World}{b x:Nat}(h:x≠b)(l:List MapEntry):(rh w b l).heap[x]? = w.heap[x]?:=by simp[rh,Ne.symm h]
def Ou(w:World)(b:Nat)(l:List MapEntry):(rh w b l).heap.size=w.heap.size:=by simp[rh]
def amp{P:Program}{w:World}{ik:Array Oper}{rest:List Oper}{o:Oper}{a:Act}{Q:Exit->Act->World->Prop}(hg:o.guard=none)(t:TypeId)(iE:o.op = .makeMap t none)
 (h:wpList P ik Q rest (a.put o.dst (.map (some w.heap.size))) (rh (w.alloc (.map #[] 0)) w.heap.size [])):wpList P ik Q (o::rest) a w:=by
 refine wpList_plain hg λK hK=>?_
 have e:rh (w.alloc (.map #[] 0)) w.heap.size []=w.alloc (.map #[] 0):=by
  unfold rh;have:(w.alloc (.map #[] 0)).heap.setIfInBounds w.heap.size (.map ([]:List MapEntry).toArray ([]:List MapEntry).length)=(w.alloc (.map #[] 0)).heap:=by
   apply Array.ext_getElem?;intro i;rw[anG];split
   .rename_i hi;subst hi;rw[heap_alloc_new];simp
   .rfl
  rw[this]
 rw[e]at h;have hr:(Instr.makeMap t none).run P w = .ok (.map (some w.heap.size)) (w.alloc (.map #[] 0)):=by simp[Instr.makeMap]
 unfold Oper.wp;simp[execOp,iE,hr,Result.andThen];exact hK _ _ h
def vV{w:World}{ik:Array Oper}{rest:List Oper}{o:Oper}{a:Act}{Q:Exit->Act->World->Prop}(hg:o.guard=none)(t:TypeId)(m k x:Operand)(iE:o.op = .insert t m k x)
 (ti tk:TI) (kt et:TypeId) (oX:mH TT t=some ti) (hd:ti.d = .map kt et) (htk:mH TT kt=some tk) (hdk:tk.d = .int .i64) (b:Nat) (l:List MapEntry) (z:Int) (v:Value) (hb:b<w.heap.size)
 (hm:a.eval m = .map (some b)) (hz:a.eval k = .int .i64 z) (hv:a.eval x=v) (hn:Instr.findNow (.int .i64) (.int .i64 z) l 0=some none)
 (h:wpList prog ik Q rest (a.put o.dst undef) (rh w b (l++[⟨.int .i64 z,v,l.length⟩]))):wpList prog ik Q (o::rest) a (rh w b l):=by
 have hu:prog.underlying t=some (.map kt et):=by rw[AU.qD oX,hd]
 have hk:prog.underlying kt=some (.int .i64):=by rw[AU.qD htk,hdk]
 refine wpList_plain hg λK hK=>?_
 have hh:=Xl hb l;have h1:(Instr.mapUpdate t (.map (some b)) (.int .i64 z) v).run prog (rh w b l) = .ok () (rh w b (l++[⟨.int .i64 z,v,l.length⟩])):=by
  have e2:{ rh w b l with heap:=(rh w b l).heap.setIfInBounds b (.map (l.toArray.push ⟨.int .i64 z,v,l.length⟩) (l.length+1)) }=rh w b (l++[⟨.int .i64 z,v,l.length⟩]):=by
   simp[rh]
  rw[<-e2];simp[Instr.mapUpdate,run_underlying hu,MapKept.run_getObj_map hh,MapKept.run_checkKey hk (k:=.int .i64 z) (by simp[MapKept.IsKey]) false 9999,MapKept.run_findKey hk hn,MapKept.run_setObj_map _ hh,Result.andThen]
 unfold Oper.wp;simp[execOp,iE,hm,hz,hv,h1,Result.andThen];exact hK _ _ h
def air(cs:Array Value):Obj->Obj
 | .cells _ elem frozen=>.cells cs elem frozen
 |o=>o
def nT(w:World)(o:Obj):(w.alloc o).heap=w.heap.push o:=rfl
def xD(w:World)(g:Nat)(cs:Array Value):(w.setRow g cs).heap=w.heap.modify g (air cs):=by
 unfold World.setRow;congr 1
def ny(a:Act)(v:Value):a.put none v=a:=rfl
def ng(a:Act)(d:Option Tmp)(v:Value):(a.put d v).tmps.size=a.tmps.size:=by cases d<;>simp[Act.put]
def ais(a:Act)(d:Option Tmp)(v:Value):(a.put d v).defers=a.defers:=by cases d<;>rfl
def nd{a:Act}{d:Tmp}{v:Value}(h:d<a.tmps.size):(a.put (some d) v).eval (.tmp d)=v:=by
 show(a.tmps.setIfInBounds d v).getD d undef=v;simp[h]
def np{a:Act}{d t:Tmp}{v:Value}(h:¬d=t):(a.put (some d) v).eval (.tmp t)=a.eval (.tmp t):=by
 show(a.tmps.setIfInBounds d v).getD t undef=a.tmps.getD t undef;simp[am7 h]
def Kw(bs:Nat->Prop)(w:World)(g:FuncId)(v:Value):Prop:=∃ b,v = .pointer (some ⟨b,0,none⟩)/\¬bs b/\b<w.heap.size/\w.cell? ⟨b,0,none⟩=some (.func (.func g) #[] #[])
def Kx(bs:Nat->Prop)(w:World)(gs:List FuncId)(vs:List Value):Prop:=∀ (i:Nat) (g:FuncId) (v:Value),gs[i]? = some g->vs[i]? = some v->Kw bs w g v
def uU{bs:Nat->Prop}{w:World}{vs:List Value}:Kx bs w [] vs:=λi g v h=>by simp at h
def tU{bs:Nat->Prop}{w:World}{g:FuncId}{v:Value}{gs:List FuncId}{vs:List Value}(h:Kw bs w g v)(k:Kx bs w gs vs):Kx bs w (g::gs) (v::vs):=λi g' v' hg hv=>by
 cases i with
 |zero=>simp at hg hv;subst hg hv;exact h
 |succ i=>exact k i g' v' (by simpa using hg) (by simpa using hv)
def Kv{w:World}{ik:Array Oper}{rest:List Oper}{o:Oper}{a:Act}{Q:Exit->Act->World->Prop}(hg:o.guard=none)(t:TypeId)(x y:Operand)(iE:o.op = .store t x y)(ti:TI)(oX:mH TT t=some ti)(h1:ti.i.size=1)
 (b:Nat) (v c:Value) (E:TypeId) (hx:a.eval x = .pointer (some ⟨b,0,none⟩)) (hy:a.eval y=v) (hv:v.cells = #[v]) (ho:v.oneCell'=true) (hb:w.heap[b]? = some (.cells #[c] E (0,0)))
 (h:wpList prog ik Q rest (a.put o.dst undef) (w.setRow b #[v])):wpList prog ik Q (o::rest) a w:=by
 refine wpList_plain hg λK hK=>?_
 have hr:=JW AU w oX b 0 E #[c] hb v (by rw[hv,h1];rfl) (by rw[hv];exact bp _) (by rw[hv];intro u hu;simp at hu;subst hu;exact ho);rw[hv]at hr;have e:((#[c]:Array Value).toList.take 0++(#[v]:Array Value).toList++(#[c]:Array Value).toList.drop (0+(#[v]:Array Value).toList.length)).toArray = #[v]:=rfl;rw[e]at hr;unfold Oper.wp;simp[execOp,iE,hx,hy,Instr.storeAt,Instr.sureAddr,hr,Result.andThen];exact hK _ _ h
def Ku{w:World}{ik:Array Oper}{rest:List Oper}{o:Oper}{a:Act}{Q:Exit->Act->World->Prop}(hg:o.guard=none)(t:TypeId)(iE:o.op = .alloc t)(ti:TI)(oX:mH TT t=some ti)(z:Value)(hz:ti.i.zero=some z)(cs:Array Value)(hc:z.cells=cs)
 (h:wpList prog ik Q rest (a.put o.dst (.pointer (some ⟨w.heap.size,0,none⟩))) (w.alloc (.cells cs t))):wpList prog ik Q (o::rest) a w:=by
 refine wpList_plain hg λK hK=>?_
 subst hc;have hr:=Pe AU w oX hz;unfold Oper.wp;simp[execOp,iE,Instr.alloc,hr,newRow,run_newObj_alloc,Result.andThen];exact hK _ _ h
def wp_move{P:Program}{w:World}{ik:Array Oper}{rest:List Oper}{o:Oper}{a:Act}{Q:Exit->Act->World->Prop}(hg:o.guard=none)(x:Operand)(iE:o.op = .move x\/o.op = .assign x)(v:Value)(hx:a.eval x=v)
 (h:wpList P ik Q rest (a.put o.dst v) w):wpList P ik Q (o::rest) a w:=by
 refine wpList_plain hg λK hK=>?_
 unfold Oper.wp;rcases iE with iE|iE
 .simp [execOp,iE,hx,Result.andThen];exact hK _ _ h
 .simp [execOp,iE,hx,Result.andThen];exact hK _ _ h
def yk{P:Program}{w:World}{ik:Array Oper}{rest:List Oper}{o:Oper}{a:Act}{Q:Exit->Act->World->Prop}(hg:o.guard=none)(f:FuncId)(cs:Array Operand)(iE:o.op = .makeFunc (.func f) #[] cs)(vs:Array Value)(hv:cs.map a.eval=vs)
 (h:wpList P ik Q rest (a.put o.dst (.func (.func f) #[] vs)) w):wpList P ik Q (o::rest) a w:=by
 refine wpList_plain hg λK hK=>?_
 unfold Oper.wp;simp[execOp,iE,Instr.makeFunc,hv,Result.andThen];exact hK _ _ h
set_option maxRecDepth 100000 in
def aks:ig 284 [] (.mp B0):=by
 refine⟨call284,λw B vs hK hB hr=>?_⟩;obtain rfl:=hr.pH;show Calls _ _ #[] w _;clear hr hK;go_enter func284,ntmps284;refine wp_seq (wp_region_list ?_);refine wp_move aI _ (.inr aI) _ aI (wpList_nil ?_);refine wp_seq (wp_region_list ?_);refine Ku aI _ aI _ aI _ aI #[.nilFunc] aI ?_;refine Ku aI _ aI _ aI _ aI #[.nilFunc] aI ?_;refine Ku aI _ aI _ aI _ aI #[.nilFunc] aI ?_;refine Ku aI _ aI _ aI _ aI #[.nilFunc] aI ?_;refine Kv aI _ _ _ aI _ aI aI _ (.func (.func 129) #[] #[]) .nilFunc 106 aI aI aI aI (by(simp only[nT,xD,dZ,eI,dz,ee];repeat (first|rw[bn trivial]|rw[bn aD]|rw[bl aD]))) ?_;refine Kv aI _ _ _ aI _ aI aI _ (.func (.func 70) #[] #[]) .nilFunc 106 aI aI aI aI (by(simp only[nT,xD,dZ,eI,dz,ee];repeat (first|rw[bn trivial]|rw[bn aD]|rw[bl aD]))) ?_;refine Kv aI _ _ _ aI _ aI aI _ (.func (.func 73) #[] #[]) .nilFunc 106 aI aI aI aI (by(simp only[nT,xD,dZ,eI,dz,ee];repeat (first|rw[bn trivial]|rw[bn aD]|rw[bl aD]))) ?_;refine Kv aI _ _ _ aI _ aI aI _ (.func (.func 131) #[] #[]) .nilFunc 106 aI aI aI aI (by(simp only[nT,xD,dZ,eI,dz,ee];repeat (first|rw[bn trivial]|rw[bn aD]|rw[bl aD]))) ?_;refine wpList_nil ?_;generalize hW:World.setRow _ _ _=W;have s0:W.heap.size=w.heap.size+4:=by rw[<-hW];simp[nT,xD]
 have so:W.os=w.os:=by rw[<-hW];rfl
 have st:W.tape=w.tape:=by rw[<-hW];rfl
 have sp:W.output=w.output:=by rw[<-hW];rfl
 have s1:∀ x,x<w.heap.size->W.heap[x]? = w.heap[x]?:=λx hx=>by
  rw[<-hW];simp only[nT,xD,dZ,eI,dz,ee]
  repeat (first|rw[bn trivial]|rw[bn aD]|rw[bl aD])
 generalize ha:Act.put _ _ _=a;have e1:a.eval (.tmp 1) = .pointer (some ⟨w.heap.size,0,none⟩):=by rw[<-ha];rfl
 have e2:a.eval (.tmp 2) = .pointer (some ⟨w.heap.size+1,0,none⟩):=by rw[<-ha,show w.heap.size+1=(w.alloc (.cells #[.nilFunc] 106)).heap.size by simp[nT]];rfl
 have e3:a.eval (.tmp 3) = .pointer (some ⟨w.heap.size+2,0,none⟩):=by rw[<-ha,show w.heap.size+2=((w.alloc (.cells #[.nilFunc] 106)).alloc (.cells #[.nilFunc] 106)).heap.size by simp[nT]];rfl
 have e4:a.eval (.tmp 4) = .pointer (some ⟨w.heap.size+3,0,none⟩):=by rw[<-ha,show w.heap.size+3=(((w.alloc (.cells #[.nilFunc] 106)).alloc (.cells #[.nilFunc] 106)).alloc (.cells #[.nilFunc] 106)).heap.size by simp[nT]];rfl
 have sz:a.tmps.size=17:=by rw[<-ha];rfl
 have hd:a.defers=[]:=by rw[<-ha];rfl
 have c1:W.heap[w.heap.size]? = some (.cells #[.func (.func 129) #[] #[]] 106 (0,0)):=by
  rw[<-hW];simp only[nT,xD,dZ,eI,dz,ee]
  repeat (first|rw[bn trivial]|rw[bn aD]|rw[bl aD])
  rfl
 have c2:W.heap[w.heap.size+1]? = some (.cells #[.func (.func 70) #[] #[]] 106 (0,0)):=by
  rw[<-hW];simp only[nT,xD,dZ,eI,dz,ee]
  repeat (first|rw[bn trivial]|rw[bn aD]|rw[bl aD])
  rfl
 have c3:W.heap[w.heap.size+2]? = some (.cells #[.func (.func 73) #[] #[]] 106 (0,0)):=by
  rw[<-hW];simp only[nT,xD,dZ,eI,dz,ee]
  repeat (first|rw[bn trivial]|rw[bn aD]|rw[bl aD])
  rfl
 have c4:W.heap[w.heap.size+3]? = some (.cells #[.func (.func 131) #[] #[]] 106 (0,0)):=by
  rw[<-hW];simp only[nT,xD,dZ,eI,dz,ee]
  repeat (first|rw[bn trivial]|rw[bn aD]|rw[bl aD])
  rfl
 clear hW ha;refine wp_seq (wp_region_list ?_);refine amp aI _ aI ?_;refine vV aI _ _ _ _ aI _ _ _ _ aI aI aI aI _ _ _ (.func (.func 307) #[] #[]) (by simp[nT]) (by simp[ny,ng,nd,np,e1,e2,e3,e4,sz]) aI aI aI ?_;refine yk aI _ _ aI #[.pointer (some ⟨w.heap.size+2,0,none⟩)] (by simp[ny,ng,nd,np,e1,e2,e3,e4,sz]) ?_;refine vV aI _ _ _ _ aI _ _ _ _ aI aI aI aI _ _ _ (.func (.func 308) #[] #[.pointer (some ⟨w.heap.size+2,0,none⟩)]) (by simp[nT]) (by simp[ny,ng,nd,np,e1,e2,e3,e4,sz]) aI (by simp[ny,ng,nd,np,e1,e2,e3,e4,sz]) aI ?_;refine yk aI _ _ aI #[.pointer (some ⟨w.heap.size+3,0,none⟩)] (by simp[ny,ng,nd,np,e1,e2,e3,e4,sz]) ?_;refine vV aI _ _ _ _ aI _ _ _ _ aI aI aI aI _ _ _ (.func (.func 309) #[] #[.pointer (some ⟨w.heap.size+3,0,none⟩)]) (by simp[nT]) (by simp[ny,ng,nd,np,e1,e2,e3,e4,sz]) aI (by simp[ny,ng,nd,np,e1,e2,e3,e4,sz]) aI ?_;refine vV aI _ _ _ _ aI _ _ _ _ aI aI aI aI _ _ _ (.func (.func 310) #[] #[]) (by simp[nT]) (by simp[ny,ng,nd,np,e1,e2,e3,e4,sz]) aI aI aI ?_
 refine yk aI _ _ aI #[.pointer (some ⟨w.heap.size+2,0,none⟩),.pointer (some ⟨w.heap.size,0,none⟩)] (by simp[ny,ng,nd,np,e1,e2,e3,e4,sz]) ?_;refine vV aI _ _ _ _ aI _ _ _ _ aI aI aI aI _ _ _ (.func (.func 311) #[] #[.pointer (some ⟨w.heap.size+2,0,none⟩),.pointer (some ⟨w.heap.size,0,none⟩)]) (by simp[nT]) (by simp[ny,ng,nd,np,e1,e2,e3,e4,sz]) aI (by simp[ny,ng,nd,np,e1,e2,e3,e4,sz]) aI ?_;refine yk aI _ _ aI #[.pointer (some ⟨w.heap.size+1,0,none⟩),.pointer (some ⟨w.heap.size+3,0,none⟩),.pointer (some ⟨w.heap.size,0,none⟩)] (by simp[ny,ng,nd,np,e1,e2,e3,e4,sz]) ?_;refine vV aI _ _ _ _ aI _ _ _ _ aI aI aI aI _ _ _ (.func (.func 312) #[] #[.pointer (some ⟨w.heap.size+1,0,none⟩),.pointer (some ⟨w.heap.size+3,0,none⟩),.pointer (some ⟨w.heap.size,0,none⟩)]) (by simp[nT]) (by simp[ny,ng,nd,np,e1,e2,e3,e4,sz]) aI (by simp[ny,ng,nd,np,e1,e2,e3,e4,sz]) aI ?_;refine yk aI _ _ aI #[.pointer (some ⟨w.heap.size,0,none⟩)] (by simp[ny,ng,nd,np,e1,e2,e3,e4,sz]) ?_
 refine vV aI _ _ _ _ aI _ _ _ _ aI aI aI aI _ _ _ (.func (.func 313) #[] #[.pointer (some ⟨w.heap.size,0,none⟩)]) (by simp[nT]) (by simp[ny,ng,nd,np,e1,e2,e3,e4,sz]) aI (by simp[ny,ng,nd,np,e1,e2,e3,e4,sz]) aI ?_;refine yk aI _ _ aI #[.pointer (some ⟨w.heap.size,0,none⟩)] (by simp[ny,ng,nd,np,e1,e2,e3,e4,sz]) ?_;refine vV aI _ _ _ _ aI _ _ _ _ aI aI aI aI _ _ _ (.func (.func 314) #[] #[.pointer (some ⟨w.heap.size,0,none⟩)]) (by simp[nT]) (by simp[ny,ng,nd,np,e1,e2,e3,e4,sz]) aI (by simp[ny,ng,nd,np,e1,e2,e3,e4,sz]) aI ?_;refine yk aI _ _ aI #[.pointer (some ⟨w.heap.size+1,0,none⟩)] (by simp[ny,ng,nd,np,e1,e2,e3,e4,sz]) ?_;refine vV aI _ _ _ _ aI _ _ _ _ aI aI aI aI _ _ _ (.func (.func 315) #[] #[.pointer (some ⟨w.heap.size+1,0,none⟩)]) (by simp[nT]) (by simp[ny,ng,nd,np,e1,e2,e3,e4,sz]) aI (by simp[ny,ng,nd,np,e1,e2,e3,e4,sz]) aI ?_;refine yk aI _ _ aI #[.pointer (some ⟨w.heap.size,0,none⟩)] (by simp[ny,ng,nd,np,e1,e2,e3,e4,sz]) ?_
 refine vV aI _ _ _ _ aI _ _ _ _ aI aI aI aI _ _ _ (.func (.func 316) #[] #[.pointer (some ⟨w.heap.size,0,none⟩)]) (by simp[nT]) (by simp[ny,ng,nd,np,e1,e2,e3,e4,sz]) aI (by simp[ny,ng,nd,np,e1,e2,e3,e4,sz]) aI ?_;refine yk aI _ _ aI #[.pointer (some ⟨w.heap.size,0,none⟩)] (by simp[ny,ng,nd,np,e1,e2,e3,e4,sz]) ?_;refine vV aI _ _ _ _ aI _ _ _ _ aI aI aI aI _ _ _ (.func (.func 317) #[] #[.pointer (some ⟨w.heap.size,0,none⟩)]) (by simp[nT]) (by simp[ny,ng,nd,np,e1,e2,e3,e4,sz]) aI (by simp[ny,ng,nd,np,e1,e2,e3,e4,sz]) aI ?_;refine yk aI _ _ aI #[.pointer (some ⟨w.heap.size+1,0,none⟩)] (by simp[ny,ng,nd,np,e1,e2,e3,e4,sz]) ?_;refine vV aI _ _ _ _ aI _ _ _ _ aI aI aI aI _ _ _ (.func (.func 318) #[] #[.pointer (some ⟨w.heap.size+1,0,none⟩)]) (by simp[nT]) (by simp[ny,ng,nd,np,e1,e2,e3,e4,sz]) aI (by simp[ny,ng,nd,np,e1,e2,e3,e4,sz]) aI ?_;refine wp_move aI _ (.inl aI) (.map (some W.heap.size)) (by simp[ny,ng,nd,np,sz]) ?_;refine wp_move aI _ (.inr aI) (.map (some W.heap.size)) (by simp[ny,ng,nd,np,sz]) (wpList_nil ?_);refine wp_ret ?_;generalize hz:Act.put _ _ _=z;have z0:z.eval (.tmp 0) = .map (some W.heap.size):=by rw[<-hz];exact nd (by simp[ng,sz])
 have zd:z.defers=[]:=by rw[<-hz];simp only[ais,hd]
 clear hz;refine⟨zd,.map (some W.heap.size),?_,_,rfl,?_,?_⟩
 .rw [<-z0];unfold results;rw[show f284.results = #[.tmp 0]from rfl];simp;show _=z.tmps.getD 0 undef;simp
 .refine ⟨so,st,sp,by simp[Ou,nT];omega,λx hx=>?_⟩;rw[Xm aD,nT,ee,bl aD,s1 x hx]
 .have bx:∀ (k:Nat) (g:FuncId),k<4->W.heap[w.heap.size+k]? = some (.cells #[.func (.func g) #[] #[]] 106 (0,0))->∀ L,Kw B (rh (W.alloc (.map #[] 0)) W.heap.size L) g (.pointer (some ⟨w.heap.size+k,0,none⟩)):=λk g hk hc L=>by
   refine⟨_,rfl,λh=>?_,?_,?_⟩
   .have:=(hB _ h).1;omega
   .simp [Ou,nT];omega
   .have e:(rh (W.alloc (.map #[] 0)) W.heap.size L).heap[w.heap.size+k]? = some (.cells #[.func (.func g) #[] #[]] 106 (0,0)):=by
     rw[Xm aD,nT,ee,bl aD,hc]
    simp[World.cell?,e]
  have b1:=bx 0 _ aF c1;have b2:=bx 1 _ aF c2;have b3:=bx 2 _ aF c3;have b4:=bx 3 _ aF c4;refine .mp _ _ _ _ (λh=>?_) (by simp[Ou,nT]) (Xl (by simp[nT]) _) ?_
  .have:=(hB _ h).1;omega
  .exact ⟨⟨rfl,_,rfl,rfl,uU⟩,⟨⟨rfl,_,rfl,rfl,tU (b3 _) uU⟩,⟨⟨rfl,_,rfl,rfl,tU (b4 _) uU⟩,⟨⟨rfl,_,rfl,rfl,uU⟩,⟨⟨rfl,_,rfl,rfl,tU (b3 _) (tU (b1 _) uU)⟩,⟨⟨rfl,_,rfl,rfl,tU (b2 _) (tU (b4 _) (tU (b1 _) uU))⟩,⟨⟨rfl,_,rfl,rfl,tU (b1 _) uU⟩,⟨⟨rfl,_,rfl,rfl,tU (b1 _) uU⟩,⟨⟨rfl,_,rfl,rfl,tU (b2 _) uU⟩,⟨⟨rfl,_,rfl,rfl,tU (b1 _) uU⟩,⟨⟨rfl,_,rfl,rfl,tU (b1 _) uU⟩,⟨⟨rfl,_,rfl,rfl,tU (b2 _) uU⟩,trivial⟩⟩⟩⟩⟩⟩⟩⟩⟩⟩⟩⟩
def Em(n:Int)(h:n.natAbs<4294967296):ig 285 [iP n] (ix (iN n)):=by
 have hv:=E7 h;exact ak call285 func285 (af [ag [iP n] (Cm _ aD),.c (xM (jY n) aE)]) 
def ahH(o:lO)(v a b da db:Iv)(p:Nat):List E:=Js o++iZ v++iZ a++iZ b++iZ da++iZ db++[iP (p:Int)]
def NV(o:lO)(v:Iv)(p:Nat):E:=.agg (Js o++iZ v++ar++ar++ar++ar++[iP (p:Int)])
def y8(o:lO)(v a b da db:Iv)(p:Nat):E:=.agg (ahH o v a b da db p)
def aki(o:lO)(v:Iv)(p:Nat):ig 307 [NV o v p] (ix (iN 0)):=
 ak call307 func307 (af [.c (Em 0 aD)]) 
def akj(o:lO)(v a b da db:Iv)(p:Nat)(hv:v.iu)(ha:a.iu)(hb:b.iu)(hd:da.iu)(he:db.iu)(iD:8<=p)(iq:p<=512):ig 308 [y8 o v a b da db p,(.jC 1 λ_=>.fn 73 [])] (ix (jL da db p)):=by
 have q1:1<=p:= aD ;have q2:p<=4096:= aD ;exact ak call308 func308 (af [.c (vF da db p aE aE aD aD)]) 
def akk(o:lO)(v a b da db:Iv)(p:Nat)(hv:v.iu)(ha:a.iu)(hb:b.iu)(hd:da.iu)(he:db.iu)(iD:8<=p)(iq:p<=512):ig 309 [y8 o v a b da db p,(.jC 1 λ_=>.fn 131 [])] (ix (lk da db p)):=by
 have q1:1<=p:= aD ;have q2:p<=4096:= aD ;exact ak call309 func309 (af [.c (C1 da db p aE aE aD aD)]) 
def akn(o:lO)(v a b da db:Iv)(p:Nat)(hv:v.iu)(ha:a.iu)(hb:b.iu)(hd:da.iu)(he:db.iu)(iD:8<=p)(iq:p<=512):ig 310 [y8 o v a b da db p] (ix (nL da)):=by
 have q1:1<=p:= aD ;have q2:p<=4096:= aD ;exact ak call310 func310 (af [.c (I1 da aE)]) 
def akl(o:lO)(v a b da db:Iv)(p:Nat)(hv:v.iu)(ha:a.iu)(hb:b.iu)(hd:da.iu)(he:db.iu)(iD:8<=p)(iq:p<=512):ig 311 [y8 o v a b da db p,(.jC 1 λ_=>.fn 73 []),(.jC 1 λ_=>.fn 129 [])] (ix (jL (iI da b p) (iI a db p) p)):=by
 have q1:1<=p:= aD ;have q2:p<=4096:= aD ;exact ak call311 func311 (af [.c (qM da b p aE aE aD aD),.c (qM a db p aE aE aD aD),.c (vF (iI da b p) (iI a db p) p (lX _ _ q1 q2) (lX _ _ q1 q2) aD aD)]) 
def akm(o:lO)(v a b da db:Iv)(p:Nat)(hv:v.iu)(ha:a.iu)(hb:b.iu)(hd:da.iu)(he:db.iu)(iD:8<=p)(iq:p<=512):ig 312 [y8 o v a b da db p,(.jC 1 λ_=>.fn 70 []),(.jC 1 λ_=>.fn 131 []),(.jC 1 λ_=>.fn 129 [])] (ix (jj (lk da (iI v db p) p) b p)):=by
 have q1:1<=p:= aD ;have q2:p<=4096:= aD ;exact ak call312 func312 (af [.c (qM v db p aE aE aD aD),.c (C1 da (iI v db p) p aE (lX _ _ q1 q2) aD aD),.c (wU (lk da (iI v db p) p) b p (rn hd (sE (lX _ _ q1 q2)) q1 q2) aE aD aD)]) 
def ako(o:lO)(v a b da db:Iv)(p:Nat)(hv:v.iu)(ha:a.iu)(hb:b.iu)(hd:da.iu)(he:db.iu)(iD:8<=p)(iq:p<=512)(h0:o.n=0):ig 313 [y8 o v a b da db p,(.jC 1 λ_=>.fn 129 [])] (ix (iI (iN 0) da p)):=by
 have q1:1<=p:= aD ;have q2:p<=4096:= aD ;have Aa:=Jk;exact ak call313 func313 (af [ah 7 ((o.n:Int)==0) (sk h0),.c (Em 0 aD),.c (qM (iN 0) da p Aa aE aD aD)]) 
def akp(o:lO)(v a b da db:Iv)(p:Nat)(hv:v.iu)(ha:a.iu)(hb:b.iu)(hd:da.iu)(he:db.iu)(iD:8<=p)(iq:p<=512)(h0:o.n≠0)(hn:o.n<=16):ig 313 [y8 o v a b da db p,(.jC 1 λ_=>.fn 129 [])] (ix (iI (iI (iN (o.n:Int)) (nX a (o.n-1) p) p) da p)):=by
 have q1:1<=p:= aD ;have q2:p<=4096:= aD ;have Aa:=Jj (aD:o.n<4294967296);have hpw:=JA ha (o.n-1) q1 q2;exact ak call313 func313 (af [ai 7 ((o.n:Int)==0) (ou h0),.c (Em (o.n:Int) aD),iC ((o.n:Int)-1) aD,.o 26 (an ((o.n:Int)-1) ((o.n-1:Nat):Int) aD),ag [ix a,iP ((o.n-1:Nat):Int),iP p] (KI _ _ _ aE aD aD aD),.c (qM (iN (o.n:Int)) (nX a (o.n-1) p) p Aa hpw aD aD),.c (qM (iI (iN (o.n:Int)) (nX a (o.n-1) p) p) da p (lX _ _ q1 q2) aE aD aD)]) 
def BZ(k:Nat):FuncId:=if k=1 then 307 else if k=3 then 308 else if k=4 then 309 else if k=7 then 310 else if k=5 then 311 else if k=6 then 312 else if k=8 then 313 else if k=9 then 314 else if k=10 then 315 else if k=11 then 316 else if k=12 then 317 else if k=13 then 318 else 0
def BY(k:Nat):List E:=if k=1 then[]else if k=3 then[.jC 1 λ_=>.fn 73 []]else if k=4 then[.jC 1 λ_=>.fn 131 []]else if k=7 then[]else if k=5 then[.jC 1 λ_=>.fn 73 [],.jC 1 λ_=>.fn 129 []]else if k=6 then[.jC 1 λ_=>.fn 70 [],.jC 1 λ_=>.fn 131 [],.jC 1 λ_=>.fn 129 []]else if k=8 then[.jC 1 λ_=>.fn 129 []]else if k=9 then[.jC 1 λ_=>.fn 129 []]else if k=10 then[.jC 1 λ_=>.fn 70 []]else if k=11 then[.jC 1 λ_=>.fn 129 []]else if k=12 then[.jC 1 λ_=>.fn 129 []]else if k=13 then[.jC 1 λ_=>.fn 70 []]else[]
def Yv{k:Nat}(h:k=1\/3<=k)(h2:k<=13):xT B0 (k:Int)=some (.fn (BZ k) (BY k)):=by
 have:k=1\/k=3\/k=4\/k=5\/k=6\/k=7\/k=8\/k=9\/k=10\/k=11\/k=12\/k=13:= aD ;rcases this with h|h|h|h|h|h|h|h|h|h|h|h<;>subst h<;>rfl
def akr(k:Nat)(hk:k=1)(o:lO)(v:Iv)(p:Nat):ig (BZ k) (NV o v p::BY k) (ix (iN 0)):=by
 subst hk;exact aki o v p
def W9{o:lO}{m:Nat}(h:pK o m)(hm:1<=m):o.b<m:=by
 have:=h.b;split at this<;>omega
def ZA{T n n' m i x:Nat}{y:Iv}(hn:n=(ni m i x).length)(tz:n'=(ni m i (x+1)).length)(hy:(if x=i then iN 1 else iN 0)=y):
 Bx.le (.row true T (n+[y].length) 7 λi_ j=>if i_<n then jF (ni m i x) i_ j else(E.jH (iz [y])) (i_-n) j) (.row true T n' 7 (jF (ni m i (x+1)))):=by
 subst tz hy;exact Nn hn
def G1{T n n' i x p:Nat}{t:mB}{l:List Iv}{y:Iv}(hn:n=(jW t l i p x).length)(tz:n'=(jW t l i p (x+1)).length)(hy:ru (t.ik.getD x iF) (l.getD (t.iW+x) il) l (jW t l i p x) p=y):
 Bx.le (.row true T (n+[y].length) 7 λi_ j=>if i_<n then jF (jW t l i p x) i_ j else(E.jH (iz [y])) (i_-n) j) (.row true T n' 7 (jF (jW t l i p (x+1)))):=by
 subst tz hy;exact Nn hn
def ak6{n x k:Nat}{F:Nat->Nat->Iv}(h:k<n):jU (lv n F x k) k=x:=by simp only[jU,Dw h];simp
def Fc(t:mB)(xs:List Iv)(p m:Nat):(qN t xs p m).length=t.iL.length:=YX _ _ _ _
def I3{t:mB}{xs:List Iv}{p m q:Nat}(h:q<t.iL.length):(qN t xs p m).getD q []=(List.range m).map (mT t xs p q):=by
 unfold qN;rw[Dw h,bl (bO _)]
def VM{t:mB}{xs:List Iv}{p m:Nat}(hm:m<=1000)(q:Nat):((qN t xs p m).getD q []).length<=1000:=by
 by_cases h:q<t.iL.length
 .rw [I3 h];simpa using hm
 .rw [bu,cw (by rw[Fc];omega)];simp
noncomputable def Fb(s:kG)(b:List Iv)(p:Nat):Bool:=mY (ko s.tape (b++s.params) p)||Cn (qN s.tape (b++s.params) p s.jo)
noncomputable def q8(s:kG)(b:List Iv)(p:Nat):List (List Iv):=(qN s.tape (b++s.params) p s.jo)
end Go.Proofs.YtbhhompalmdaiaaGreatDoor
namespace Go.Proofs.YtbhhompalmdaiaaGreatDoor.Fp
end Go.Proofs.YtbhhompalmdaiaaGreatDoor.Fp
namespace Go.Proofs.YtbhhompalmdaiaaGreatDoor
open Go.RowKit Fp Pu
def Qb(l r:List Iv):Prop:=∀ i,Sub (l.getD i il) (r.getD i il)
def Qb.refl(l:List Iv):Qb l l:=λ_=>Sub.refl _
def uP(t:mB):Prop:=∀ i,(t.ik.getD i iF).kind<=8
section
variable {s:kG} {x x' b b':List Iv} {h h':Dy} {p n:Nat}
end
noncomputable def Zj(t:mB)(xs:List Iv)(p:Nat)(x:Nat):PS:=⟨75,true,[(26,.e (iP x)),(25,.e (iP t.ik.length)),(24,.e (mw t.ik)),(7,.own 22),(2,.e (iP p))],[(22,.row true 33 ((iS t.ik xs p x).length) 7 (jF (iS t.ik xs p x)))]⟩
def Th(t:mB)(l:List Iv)(i p:Nat)(x:Nat):PS:=⟨95,true,[(10,.own 10),(20,.e (iP x)),(19,.e (iP t.iW)),(9,.e (.mp B0)),(4,.box 4 0),(1,.e (iz l)),(2,.e (iP i)),(3,.e (iP p))],[(10,.row true 33 ((ni t.iW i x).length) 7 (jF (ni t.iW i x))),(4,.cells 39 [iP t.iW,mw t.ik,mu t.iL])]⟩
noncomputable def Ti(t:mB)(l:List Iv)(i p:Nat)(x:Nat):PS:=⟨95,true,[(36,.e (iP x)),(35,.e (iP t.ik.length)),(34,.e (mw t.ik)),(10,.own 10),(9,.e (.mp B0)),(4,.box 4 0),(1,.e (iz l)),(3,.e (iP p))],[(10,.row true 33 ((jW t l i p x).length) 7 (jF (jW t l i p x))),(4,.cells 39 [iP t.iW,mw t.ik,mu t.iL])]⟩
noncomputable def Tn(t:mB)(xs:List Iv)(p m:Nat)(x:Nat):PS:=⟨91,true,[(43,.e (iP x)),(42,.e (iP m)),(11,.own 41),(10,.e (iz (iS t.ik xs p t.ik.length))),(4,.box 4 0),(3,.e (iP p))],[(41,.jm true 35 33 t.iL.length 7 (jU (lv t.iL.length (mT t xs p) x 0)) (kQ (lv t.iL.length (mT t xs p) x 0)) .none),(4,.cells 39 [iP t.iW,mw t.ik,mu t.iL])]⟩
noncomputable def To(t:mB)(xs:List Iv)(p m x:Nat)(k:Nat):PS:=⟨91,true,[(54,.e (iP k)),(53,.e (iP t.iL.length)),(52,.e (mu t.iL)),(13,.e (iz (jW t (iS t.ik xs p t.ik.length) x p t.ik.length))),(43,.e (iP x)),(42,.e (iP m)),(11,.own 41),(10,.e (iz (iS t.ik xs p t.ik.length))),(4,.box 4 0),(3,.e (iP p))],[(41,.jm true 35 33 t.iL.length 7 (jU (lv t.iL.length (mT t xs p) x k)) (kQ (lv t.iL.length (mT t xs p) x k)) .none),(4,.cells 39 [iP t.iW,mw t.ik,mu t.iL])]⟩
noncomputable def Tp(t:mB)(xs:List Iv)(p m:Nat)(x:Nat):PS:=⟨91,true,[(16,.own 16),(77,.e (iP x)),(76,.e (iP t.iL.length)),(75,.e (mu t.iL)),(11,.own 41),(10,.e (iz (iS t.ik xs p t.ik.length)))],[(16,.row true 33 x 7 (jF ((List.range x).map (λj_=>(iS t.ik xs p t.ik.length).getD (t.iL.getD j_ 0) il)))),(41,.jm true 35 33 t.iL.length 7 (jU (lv t.iL.length (mT t xs p) m 0)) (kQ (lv t.iL.length (mT t xs p) m 0)) .none)]⟩
def Qj(o:lO)(x y:Iv)(p:Nat)(hx:x.iu)(hy:y.iu)(r1:3<=o.kind)(r2:o.kind<=8)(r3:o.n<=16)(iD:8<=p)(iq:p<=512)(hF:o.kind<=8\/zD):ig 283 [iP o.kind,iP o.n,ix x,ix y,iP p] (ix (kI o x y p)):=
 ak call283 func283 (.w ((o.kind:Int)=3)
  (λk1=>ae [tB 13 (bg k1),.c (vF x y p aE aE aD aD)]<|rQ (ix (jL x y p)) (ix (kI o x y p)) (by unfold kI;simp[(aD:o.kind=3)]))
  (λk1=>ae [tB 13 (bd k1)]<|.w ((o.kind:Int)=4)
   (λk2=>ae [tB 19 (bg k2),.c (C1 x y p aE aE aD aD)]<|rQ (ix (lk x y p)) (ix (kI o x y p)) (by unfold kI;simp[(aD:¬o.kind=3),(aD:o.kind=4)]))
   (λk2=>ae [tB 19 (bd k2)]<|.w ((o.kind:Int)=5)
    (λk3=>ae [tB 25 (bg k3),.c (qM x y p aE aE aD aD)]<|rQ (ix (iI x y p)) (ix (kI o x y p)) (by unfold kI;simp[(aD:¬o.kind=3),(aD:¬o.kind=4),(aD:o.kind=5)]))
    (λk3=>ae [tB 25 (bd k3)]<|.w ((o.kind:Int)=6)
     (λk4=>ae [tB 31 (bg k4),.c (wU x y p aE aE aD aD)]<|rQ (ix (jj x y p)) (ix (kI o x y p)) (by unfold kI;simp[(aD:¬o.kind=3),(aD:¬o.kind=4),(aD:¬o.kind=5),(aD:o.kind=6)]))
     (λk4=>ae [tB 31 (bd k4)]<|.w ((o.kind:Int)=7)
      (λk5=>ae [tB 37 (bg k5),.c (I1 x aE)]<|rQ (ix (nL x)) (ix (kI o x y p)) (by unfold kI;simp[(aD:¬o.kind=3),(aD:¬o.kind=4),(aD:¬o.kind=5),(aD:¬o.kind=6),(aD:o.kind=7)]))
      (λk5=>ae [tB 37 (bd k5)]<|.w ((o.kind:Int)=8)
       (λk6=>ae [tB 41 (bg k6),ag [ix x,iP o.n,iP p] (KI _ _ _ aE aD aD aD)]<|rQ (ix (nX x o.n p)) (ix (kI o x y p)) (by unfold kI;simp[(aD:¬o.kind=3),(aD:¬o.kind=4),(aD:¬o.kind=5),(aD:¬o.kind=6),(aD:¬o.kind=7),(aD:o.kind=8)]))
       (λk6=>.x aD))))))) 
def alA(t:mB)(xs:List Iv)(p:Nat)(h:yq t)(h1:1<=xs.length)(hx:xs.length=t.iW)(hv:nP xs)(hr:uP t)(iD:8<=p)(iq:p<=512):ig 240 [B4 t,iz xs,iP p] (iz (iS t.ik xs p t.ik.length)):=by
 have h8:=h.iW;have Ac:=h.ik;exact ak call240 func240 (af [.c (Pz t aE),ai 19 ((xs.length:Int) != (t.iW:Int)) (sD hx),.cn (Qu _ aD aD:DN 280 [iz xs] true 33 xs.length 7 (jF xs)),.s (Sp.jP (Zj t xs p) 0 t.ik.length aD (λx hx lp=>by
    have iE:=h.op x aD;have uw:=zA t.ik hv (aD:1<=p) (aD:p<=4096) x;have ED:=B6 t.ik xs p x;have w1:=uw (t.ik.getD x iF).a;by_cases lW:((t.ik.getD x iF)).kind=1
    .have py:((t.ik.getD x iF)).kind=1:=lW;obtain⟨o1,o2,o3,Ad⟩:=iE.num py;have pg:sw (t.ik.getD x iF) (iS t.ik xs p x) p=(lu (t.ik.getD x iF).cn (t.ik.getD x iF).cd p):=by unfold sw;rw[bn py]
     have qJ:=oC (lu (t.ik.getD x iF).cn (t.ik.getD x iF).cd p);exact iM (ae [tT 27 ((x:Int)<t.ik.length) aD,iX (x:Int) (t.ik.length) aD,.c (Oj ((t.ik.getD x iF).kind:Nat) aD),ah 50 ((0:Int)==0) aF,.c (XU ((t.ik.getD x iF).cn) ((t.ik.getD x iF).cd) p aE aD aD),.o 71 (.e (mr _):aj (.sl true 1 7 λi_ j_=>(iZ (lu ((t.ik.getD x iF).cn) ((t.ik.getD x iF).cd) p)).getD (i_*7+j_) (.v (.bool false))) (iz [lu ((t.ik.getD x iF).cn) ((t.ik.getD x iF).cd) p])),.a (aD:((iS t.ik xs p x).length+[lu ((t.ik.getD x iF).cn) ((t.ik.getD x iF).cd) p].length)*88<=140737488355328),iC ((x:Int)+1) aD]<|.e (af [.b 22 (DH rfl rfl pg:Bx.le (.row true 33 ((iS t.ik xs p x).length+[lu ((t.ik.getD x iF).cn) ((t.ik.getD x iF).cd) p].length) 7 (λi_ j_=>if i_<(iS t.ik xs p x).length then(jF (iS t.ik xs p x)) i_ j_ else(E.jH (iz [lu ((t.ik.getD x iF).cn) ((t.ik.getD x iF).cd) p])) (i_-(iS t.ik xs p x).length) j_)) (.row true 33 ((iS t.ik xs p (x+1)).length) 7 (jF (iS t.ik xs p (x+1)))))])) aG 
    .by_cases hk:((t.ik.getD x iF)).kind<=6
     .have wM:((t.ik.getD x iF)).kind≠1:=lW;have py:((t.ik.getD x iF)).kind<=6:=hk;have pg:sw (t.ik.getD x iF) (iS t.ik xs p x) p=(kI (t.ik.getD x iF) ((iS t.ik xs p x).getD ((t.ik.getD x iF).a) il) ((iS t.ik xs p x).getD ((t.ik.getD x iF).b) il) p):=by unfold sw DX;rw[bl wM,bq py];rfl
      obtain⟨o1,o2,o3,o4,o5,o6⟩:=iE.GJ wM py;have w2:=uw (t.ik.getD x iF).b;have o7:=hr x;have qJ:=oC (kI (t.ik.getD x iF) ((iS t.ik xs p x).getD ((t.ik.getD x iF).a) il) ((iS t.ik xs p x).getD ((t.ik.getD x iF).b) il) p);exact iM (ae [tT 27 ((x:Int)<t.ik.length) aD,iX (x:Int) (t.ik.length) aD,.c (Ol ((t.ik.getD x iF).kind:Nat) aD aD),ai 50 ((2:Int)==0) aF,ai 56 ((2:Int)==1) aF,iX ((t.ik.getD x iF).a:Int) ((iS t.ik xs p x).length) aD,.a (aD:(t.ik.getD x iF).a<(iS t.ik xs p x).length),
       iX ((t.ik.getD x iF).b:Int) ((iS t.ik xs p x).length) aD,.a (aD:(t.ik.getD x iF).b<(iS t.ik xs p x).length),ag [iP ((t.ik.getD x iF).kind:Int),iP ((t.ik.getD x iF).n:Int),ix ((iS t.ik xs p x).getD (t.ik.getD x iF).a il),ix ((iS t.ik xs p x).getD (t.ik.getD x iF).b il),iP p] (Qj (t.ik.getD x iF) _ _ _ aE aE aD aD aD aD aD iE.f),.o 71 (.e (mr _):aj (.sl true 1 7 λi_ j_=>(iZ (kI (t.ik.getD x iF) ((iS t.ik xs p x).getD (t.ik.getD x iF).a il) ((iS t.ik xs p x).getD (t.ik.getD x iF).b il) p)).getD (i_*7+j_) (.v (.bool false))) (iz [kI (t.ik.getD x iF) ((iS t.ik xs p x).getD (t.ik.getD x iF).a il) ((iS t.ik xs p x).getD (t.ik.getD x iF).b il) p])),.a (aD:((iS t.ik xs p x).length+[kI (t.ik.getD x iF) ((iS t.ik xs p x).getD (t.ik.getD x iF).a il) ((iS t.ik xs p x).getD (t.ik.getD x iF).b il) p].length)*88<=140737488355328),
       iC ((x:Int)+1) aD]<|.e (af [.b 22 (DH rfl rfl pg:Bx.le (.row true 33 ((iS t.ik xs p x).length+[kI (t.ik.getD x iF) ((iS t.ik xs p x).getD (t.ik.getD x iF).a il) ((iS t.ik xs p x).getD (t.ik.getD x iF).b il) p].length) 7 (λi_ j_=>if i_<(iS t.ik xs p x).length then(jF (iS t.ik xs p x)) i_ j_ else(E.jH (iz [kI (t.ik.getD x iF) ((iS t.ik xs p x).getD (t.ik.getD x iF).a il) ((iS t.ik xs p x).getD (t.ik.getD x iF).b il) p])) (i_-(iS t.ik xs p x).length) j_)) (.row true 33 ((iS t.ik xs p (x+1)).length) 7 (jF (iS t.ik xs p (x+1)))))])) aG 
     .have wM:((t.ik.getD x iF)).kind≠1:=lW;have py:¬((t.ik.getD x iF)).kind<=6:=hk;have pg:sw (t.ik.getD x iF) (iS t.ik xs p x) p=(kI (t.ik.getD x iF) ((iS t.ik xs p x).getD ((t.ik.getD x iF).a) il) il p):=by unfold sw DX;rw[bl wM,bt py];rfl
      have w2:=mA;have o2:=iE.Gz wM;have o7:=hr x;have o8:=Oi iE;have qJ:=oC (kI (t.ik.getD x iF) ((iS t.ik xs p x).getD ((t.ik.getD x iF).a) il) il p);exact iM (ae [tT 27 ((x:Int)<t.ik.length) aD,iX (x:Int) (t.ik.length) aD,.c (Jt ((t.ik.getD x iF).kind:Nat) aD aD),ai 50 ((1:Int)==0) aF,ah 56 ((1:Int)==1) aF,iX ((t.ik.getD x iF).a:Int) ((iS t.ik xs p x).length) aD,.a (aD:(t.ik.getD x iF).a<(iS t.ik xs p x).length),.o 66 (.e yj:aj (.agg [bP false,.v (.slice none 0 0),iP 0,bP false,.v (.slice none 0 0),iP 0,bP true]) (ix il)),ag [iP ((t.ik.getD x iF).kind:Int),iP ((t.ik.getD x iF).n:Int),ix ((iS t.ik xs p x).getD (t.ik.getD x iF).a il),ix il,iP p] (Qj (t.ik.getD x iF) _ _ _ aE aE aD aD aD aD aD iE.f),.o 71 (.e (mr _):aj (.sl true 1 7 λi_ j_=>(iZ (kI (t.ik.getD x iF) ((iS t.ik xs p x).getD (t.ik.getD x iF).a il) il p)).getD (i_*7+j_) (.v (.bool false))) (iz [kI (t.ik.getD x iF) ((iS t.ik xs p x).getD (t.ik.getD x iF).a il) il p])),.a (aD:((iS t.ik xs p x).length+[kI (t.ik.getD x iF) ((iS t.ik xs p x).getD (t.ik.getD x iF).a il) il p].length)*88<=140737488355328),iC ((x:Int)+1) aD]<|.e (af [.b 22 (DH rfl rfl pg:Bx.le (.row true 33 ((iS t.ik xs p x).length+[kI (t.ik.getD x iF) ((iS t.ik xs p x).getD (t.ik.getD x iF).a il) il p].length) 7 (λi_ j_=>if i_<(iS t.ik xs p x).length then(jF (iS t.ik xs p x)) i_ j_ else(E.jH (iz [kI (t.ik.getD x iF) ((iS t.ik xs p x).getD (t.ik.getD x iF).a il) il p])) (i_-(iS t.ik xs p x).length) j_)) (.row true 33 ((iS t.ik xs p (x+1)).length) 7 (jF (iS t.ik xs p (x+1)))))])) aG)
  (λhx=>by
    exact iM (ae [tF 27 ((t.ik.length:Int)<t.ik.length) aD,.z 22]<|.e (af [.o 7 (.e (wV aJ):aj (.sl true ((iS t.ik xs p t.ik.length).length) 7 (jF (iS t.ik xs p t.ik.length))) (iz (iS t.ik xs p t.ik.length)))])) aG) aK:jO 5 f240 (Zj t xs p 0) (.exit 0) ⟨75,true,[(7,.e (iz (iS t.ik xs p t.ik.length)))],[]⟩) (af [.b 22 (.jb rfl:Bx.le (.row true 33 xs.length 7 (jF xs)) (.row true 33 ((iS t.ik xs p 0).length) 7 (jF (iS t.ik xs p 0))))])]) 
def akq(o:lO)(v a b da db:Iv)(p:Nat)(hv:v.iu)(ha:a.iu)(hb:b.iu)(hd:da.iu)(he:db.iu)(iD:8<=p)(iq:p<=512)(hn:o.n<=16)(h1:3<=o.kind)(h2:o.kind<=8):ig (BZ o.kind) (y8 o v a b da db p::BY o.kind) (ix (pZ o v a b da db p)):=by
 have:o.kind=3\/o.kind=4\/o.kind=5\/o.kind=6\/o.kind=7\/o.kind=8:= aD ;rcases this with h|h|h|h|h|h
 .rw [h];unfold pZ;rw[bl aD,bn h];exact akj o v a b da db p hv ha hb hd he iD iq
 .rw [h];unfold pZ;rw[bl aD,bl aD,bn h];exact akk o v a b da db p hv ha hb hd he iD iq
 .rw [h];unfold pZ;rw[bl aD,bl aD,bl aD,bn h];exact akl o v a b da db p hv ha hb hd he iD iq
 .rw [h];unfold pZ;rw[bl aD,bl aD,bl aD,bl aD,bn h];exact akm o v a b da db p hv ha hb hd he iD iq
 .rw [h];unfold pZ;rw[bl aD,bl aD,bl aD,bl aD,bl aD,bn h];exact akn o v a b da db p hv ha hb hd he iD iq
 .rw [h];unfold pZ;rw[bl aD,bl aD,bl aD,bl aD,bl aD,bl aD,bn h];by_cases h0:o.n=0
  .rw [bn h0];exact ako o v a b da db p hv ha hb hd he iD iq h0
  .rw [bl h0];exact akp o v a b da db p hv ha hb hd he iD iq h0 hn
def abM(t:mB)(l:List Iv)(i p:Nat)(h:yq t)(hr:uP t)(h1:1<=t.iW)(hl:l.length=t.iW+t.ik.length)(hv:nP l)(iD:8<=p)(iq:p<=512):ig 241 [B4 t,iz l,iP i,iP p] (iz (jW t l i p t.ik.length)):=by
 have h8:=h.iW;have Ac:=h.ik;exact ak call241 func241 (af [ag [] aks,.y 10 10 true 33 7 (jF (ni t.iW i 0)),.s (Sp.jP (Th t l i p) 0 t.iW aD (λx hx lp=>by
    have ED:=Gh t.iW i x;exact iM (ae [tT 21 ((x:Int)<t.iW) aD,.c (Em 0 aD)]<|.w (x=i)
     (λMM=>by
      have pg:(if x=i then iN 1 else iN 0)=iN 1:=by rw[bn MM]
      have qJ:=oC (iN 1);exact ae [ah 26 ((x:Int)==i) (bg aD),.c (Em 1 aD),.o 30 (.e (mr _):aj (.sl true 1 7 λi_ j_=>(iZ (iN 1)).getD (i_*7+j_) (.v (.bool false))) (iz [iN 1])),.a (aD:((ni t.iW i x).length+[iN 1].length)*88<=140737488355328),
       iC ((x:Int)+1) aD]<|.e (af [.b 10 (ZA rfl rfl pg:Bx.le (.row true 33 ((ni t.iW i x).length+[iN 1].length) 7 (λi_ j_=>if i_<(ni t.iW i x).length then(jF (ni t.iW i x)) i_ j_ else(E.jH (iz [iN 1])) (i_-(ni t.iW i x).length) j_)) (.row true 33 ((ni t.iW i (x+1)).length) 7 (jF (ni t.iW i (x+1)))))]))
     (λMM=>by
      have pg:(if x=i then iN 1 else iN 0)=iN 0:=by rw[bl MM]
      have qJ:=oC (iN 0);exact ae [ai 26 ((x:Int)==i) (bd aD),.o 30 (.e (mr _):aj (.sl true 1 7 λi_ j_=>(iZ (iN 0)).getD (i_*7+j_) (.v (.bool false))) (iz [iN 0])),.a (aD:((ni t.iW i x).length+[iN 0].length)*88<=140737488355328),iC ((x:Int)+1) aD]<|.e (af [.b 10 (ZA rfl rfl pg:Bx.le (.row true 33 ((ni t.iW i x).length+[iN 0].length) 7 (λi_ j_=>if i_<(ni t.iW i x).length then(jF (ni t.iW i x)) i_ j_ else(E.jH (iz [iN 0])) (i_-(ni t.iW i x).length) j_)) (.row true 33 ((ni t.iW i (x+1)).length) 7 (jF (ni t.iW i (x+1)))))]))) aG)
  (λhx=>by
    exact iM (af [tF 21 ((t.iW:Int)<t.iW) aD]) aG) aK:jO 4 f241 (Th t l i p 0) (.exit 0) ⟨95,true,[(10,.own 10),(9,.e (.mp B0)),(4,.box 4 0),(1,.e (iz l)),(3,.e (iP p))],[(10,.row true 33 ((ni t.iW i t.iW).length) 7 (jF (ni t.iW i t.iW))),(4,.cells 39 [iP t.iW,mw t.ik,mu t.iL])]⟩) (af [.b 10 (.jb rfl:Bx.le (.row true 33 0 7 (jF (ni t.iW i 0))) (.row true 33 ((ni t.iW i 0).length) 7 (jF (ni t.iW i 0))))]),.s (Sp.jP (Ti t l i p) 0 t.ik.length aD (λx hx lp=>by
    have iE:=h.op x aD;have ED:=D0 t l i p x;have Mv:=D1 t hv i (aD:1<=p) (aD:p<=4096) x;have UC:=iE.k3;by_cases lW:(t.ik.getD x iF).kind=1
    .by_cases EW:(l.getD (t.iW+x) il).all=true
     .have wS:=EW;have pg:ru (t.ik.getD x iF) (l.getD (t.iW+x) il) l (jW t l i p x) p=il:=by unfold ru;rw[bn wS]
      have qJ:=oC il;exact iM (ae [tT 37 ((x:Int)<t.ik.length) aD,iX (x:Int) (t.ik.length) aD,iC ((t.iW:Int)+x) aD,iX ((t.iW+x:Nat):Int) (l.length) aD,ai 53 (((t.ik.getD x iF).kind:Int) != 1) (bj aD),.o 78 (.e yj:aj (.agg [bP false,.v (.slice none 0 0),iP 0,bP false,.v (.slice none 0 0),iP 0,bP true]) (ix il)),ah 81 ((l.getD (t.iW+x) il).all) wS,.o 91 (.e (mr _):aj (.sl true 1 7 λi_ j_=>(iZ il).getD (i_*7+j_) (.v (.bool false))) (iz [il])),.a (aD:((jW t l i p x).length+[il].length)*88<=140737488355328),
       iC ((x:Int)+1) aD]<|.e (af [.b 10 (G1 rfl rfl pg:Bx.le (.row true 33 ((jW t l i p x).length+[il].length) 7 (λi_ j_=>if i_<(jW t l i p x).length then(jF (jW t l i p x)) i_ j_ else(E.jH (iz [il])) (i_-(jW t l i p x).length) j_)) (.row true 33 ((jW t l i p (x+1)).length) 7 (jF (jW t l i p (x+1)))))])) aG 
     .have wS:(l.getD (t.iW+x) il).all=false:=bh EW;have pg:ru (t.ik.getD x iF) (l.getD (t.iW+x) il) l (jW t l i p x) p=iN 0:=by unfold ru;rw[bl (by rw[wS];decide)];unfold pZ;rw[bn lW]
      have qJ:=oC (iN 0);exact iM (ae [tT 37 ((x:Int)<t.ik.length) aD,iX (x:Int) (t.ik.length) aD,iC ((t.iW:Int)+x) aD,iX ((t.iW+x:Nat):Int) (l.length) aD,ai 53 (((t.ik.getD x iF).kind:Int) != 1) (bj aD),.o 78 (.e yj:aj (.agg [bP false,.v (.slice none 0 0),iP 0,bP false,.v (.slice none 0 0),iP 0,bP true]) (ix il)),ai 81 ((l.getD (t.iW+x) il).all) wS,.m (Yv UC iE.Fe:xT B0 ((t.ik.getD x iF).kind:Int)=some (.fn (BZ (t.ik.getD x iF).kind) (BY (t.ik.getD x iF).kind))),.c (akr _ lW _ _ _:ig (BZ (t.ik.getD x iF).kind) ((NV (t.ik.getD x iF) (l.getD (t.iW+x) il) p)::(BY (t.ik.getD x iF).kind)) _),.o 91 (.e (mr _):aj (.sl true 1 7 λi_ j_=>(iZ (iN 0)).getD (i_*7+j_) (.v (.bool false))) (iz [iN 0])),.a (aD:((jW t l i p x).length+[iN 0].length)*88<=140737488355328),
       iC ((x:Int)+1) aD]<|.e (af [.b 10 (G1 rfl rfl pg:Bx.le (.row true 33 ((jW t l i p x).length+[iN 0].length) 7 (λi_ j_=>if i_<(jW t l i p x).length then(jF (jW t l i p x)) i_ j_ else(E.jH (iz [iN 0])) (i_-(jW t l i p x).length) j_)) (.row true 33 ((jW t l i p (x+1)).length) 7 (jF (jW t l i p (x+1)))))])) aG 
    .by_cases EW:(l.getD (t.iW+x) il).all=true
     .have wS:=EW;have h3:=iE.k3.resolve_left lW;have oa:=iE.Gz lW;have ob:=W9 iE aD;have pg:ru (t.ik.getD x iF) (l.getD (t.iW+x) il) l (jW t l i p x) p=il:=by unfold ru;rw[bn wS]
      have qJ:=oC il;exact iM (ae [tT 37 ((x:Int)<t.ik.length) aD,iX (x:Int) (t.ik.length) aD,iC ((t.iW:Int)+x) aD,iX ((t.iW+x:Nat):Int) (l.length) aD,ah 53 (((t.ik.getD x iF).kind:Int) != 1) (bk aD),iX ((t.ik.getD x iF).a:Int) (l.length) aD,iX ((t.ik.getD x iF).b:Int) (l.length) aD,
       iX ((t.ik.getD x iF).a:Int) ((jW t l i p x).length) aD,.a (aD:(t.ik.getD x iF).a<(jW t l i p x).length),iX ((t.ik.getD x iF).b:Int) ((jW t l i p x).length) aD,.a (aD:(t.ik.getD x iF).b<(jW t l i p x).length),.o 78 (.e yj:aj (.agg [bP false,.v (.slice none 0 0),iP 0,bP false,.v (.slice none 0 0),iP 0,bP true]) (ix il)),ah 81 ((l.getD (t.iW+x) il).all) wS,.o 91 (.e (mr _):aj (.sl true 1 7 λi_ j_=>(iZ il).getD (i_*7+j_) (.v (.bool false))) (iz [il])),.a (aD:((jW t l i p x).length+[il].length)*88<=140737488355328),iC ((x:Int)+1) aD]<|.e (af [.b 10 (G1 rfl rfl pg:Bx.le (.row true 33 ((jW t l i p x).length+[il].length) 7 (λi_ j_=>if i_<(jW t l i p x).length then(jF (jW t l i p x)) i_ j_ else(E.jH (iz [il])) (i_-(jW t l i p x).length) j_)) (.row true 33 ((jW t l i p (x+1)).length) 7 (jF (jW t l i p (x+1)))))])) aG 
     .have wS:(l.getD (t.iW+x) il).all=false:=bh EW;have h3:=iE.k3.resolve_left lW;have oa:=iE.Gz lW;have ob:=W9 iE aD;have pg:ru (t.ik.getD x iF) (l.getD (t.iW+x) il) l (jW t l i p x) p=pZ (t.ik.getD x iF) (l.getD (t.iW+x) il) (l.getD ((t.ik.getD x iF).a) il) (l.getD ((t.ik.getD x iF).b) il) ((jW t l i p x).getD ((t.ik.getD x iF).a) il) ((jW t l i p x).getD ((t.ik.getD x iF).b) il) p:=by unfold ru;rw[bl (by rw[wS];decide)]
      have qJ:=oC (pZ (t.ik.getD x iF) (l.getD (t.iW+x) il) (l.getD ((t.ik.getD x iF).a) il) (l.getD ((t.ik.getD x iF).b) il) ((jW t l i p x).getD ((t.ik.getD x iF).a) il) ((jW t l i p x).getD ((t.ik.getD x iF).b) il) p);exact iM (ae [tT 37 ((x:Int)<t.ik.length) aD,iX (x:Int) (t.ik.length) aD,iC ((t.iW:Int)+x) aD,iX ((t.iW+x:Nat):Int) (l.length) aD,ah 53 (((t.ik.getD x iF).kind:Int) != 1) (bk aD),iX ((t.ik.getD x iF).a:Int) (l.length) aD,iX ((t.ik.getD x iF).b:Int) (l.length) aD,
       iX ((t.ik.getD x iF).a:Int) ((jW t l i p x).length) aD,.a (aD:(t.ik.getD x iF).a<(jW t l i p x).length),iX ((t.ik.getD x iF).b:Int) ((jW t l i p x).length) aD,.a (aD:(t.ik.getD x iF).b<(jW t l i p x).length),.o 78 (.e yj:aj (.agg [bP false,.v (.slice none 0 0),iP 0,bP false,.v (.slice none 0 0),iP 0,bP true]) (ix il)),ai 81 ((l.getD (t.iW+x) il).all) wS,.m (Yv UC iE.Fe:xT B0 ((t.ik.getD x iF).kind:Int)=some (.fn (BZ (t.ik.getD x iF).kind) (BY (t.ik.getD x iF).kind))),.c (akq _ _ _ _ _ _ _ (hv _) (hv _) (hv _) (Mv _) (Mv _) iD iq (Oi iE) h3 (hr x):ig (BZ (t.ik.getD x iF).kind) ((y8 (t.ik.getD x iF) (l.getD (t.iW+x) il) (l.getD (t.ik.getD x iF).a il) (l.getD (t.ik.getD x iF).b il) ((jW t l i p x).getD (t.ik.getD x iF).a il) ((jW t l i p x).getD (t.ik.getD x iF).b il) p)::(BY (t.ik.getD x iF).kind)) _),.o 91 (.e (mr _):aj (.sl true 1 7 λi_ j_=>(iZ (pZ (t.ik.getD x iF) (l.getD (t.iW+x) il) (l.getD ((t.ik.getD x iF).a) il) (l.getD ((t.ik.getD x iF).b) il) ((jW t l i p x).getD ((t.ik.getD x iF).a) il) ((jW t l i p x).getD ((t.ik.getD x iF).b) il) p)).getD (i_*7+j_) (.v (.bool false))) (iz [pZ (t.ik.getD x iF) (l.getD (t.iW+x) il) (l.getD ((t.ik.getD x iF).a) il) (l.getD ((t.ik.getD x iF).b) il) ((jW t l i p x).getD ((t.ik.getD x iF).a) il) ((jW t l i p x).getD ((t.ik.getD x iF).b) il) p])),.a (aD:((jW t l i p x).length+[pZ (t.ik.getD x iF) (l.getD (t.iW+x) il) (l.getD ((t.ik.getD x iF).a) il) (l.getD ((t.ik.getD x iF).b) il) ((jW t l i p x).getD ((t.ik.getD x iF).a) il) ((jW t l i p x).getD ((t.ik.getD x iF).b) il) p].length)*88<=140737488355328),
       iC ((x:Int)+1) aD]<|.e (af [.b 10 (G1 rfl rfl pg:Bx.le (.row true 33 ((jW t l i p x).length+[pZ (t.ik.getD x iF) (l.getD (t.iW+x) il) (l.getD ((t.ik.getD x iF).a) il) (l.getD ((t.ik.getD x iF).b) il) ((jW t l i p x).getD ((t.ik.getD x iF).a) il) ((jW t l i p x).getD ((t.ik.getD x iF).b) il) p].length) 7 (λi_ j_=>if i_<(jW t l i p x).length then(jF (jW t l i p x)) i_ j_ else(E.jH (iz [pZ (t.ik.getD x iF) (l.getD (t.iW+x) il) (l.getD ((t.ik.getD x iF).a) il) (l.getD ((t.ik.getD x iF).b) il) ((jW t l i p x).getD ((t.ik.getD x iF).a) il) ((jW t l i p x).getD ((t.ik.getD x iF).b) il) p])) (i_-(jW t l i p x).length) j_)) (.row true 33 ((jW t l i p (x+1)).length) 7 (jF (jW t l i p (x+1)))))])) aG)
  (λhx=>by
    exact iM (ae [tF 37 ((t.ik.length:Int)<t.ik.length) aD,.z 10]<|.e (af [.o 10 (.e (wV aJ):aj (.sl true ((jW t l i p t.ik.length).length) 7 (jF (jW t l i p t.ik.length))) (iz (jW t l i p t.ik.length)))])) aG) aK:jO 12 f241 (Ti t l i p 0) (.exit 2) ⟨95,true,[(10,.e (iz (jW t l i p t.ik.length)))],[]⟩) (af [.b 10 (.jb rfl:Bx.le (.row true 33 ((ni t.iW i t.iW).length) 7 (jF (ni t.iW i t.iW))) (.row true 33 ((jW t l i p 0).length) 7 (jF (jW t l i p 0))))])]) 
def LL(t:mB)(xs:List Iv)(p m:Nat)(h:yq t)(h0:1<=xs.length)(hx:xs.length=t.iW)(hv:nP xs)(hr:uP t)(hm:m<=t.iW)(iD:8<=p)(iq:p<=512):ig 183 [B4 t,iz xs,iP m,iP p] (.iB [iz (ko t xs p),iU (qN t xs p m)]):=by
 have h8:=h.iW;have Ac:=h.ik;have xF:=h.iL;have h1:1<=t.iW:= aD ;have BA:(iS t.ik xs p t.ik.length).length=t.iW+t.ik.length:=by rw[B6,hx]
 have U8:=zA t.ik hv (aD:1<=p) (aD:p<=4096) t.ik.length;exact ak call183 func183 (ae [.c (Tk t xs p h h0 hx hv aD aD),tF 26 ((m:Int)<0) aD,tF 32 ((t.iW:Int)<m) aD,.c (alA t xs p h h0 hx hv hr aD aD),.a (aD:0<=((t.iL.length:Int):Int)/\((t.iL.length:Int):Int)<=((t.iL.length:Int):Int)),.a (aD:((24:Nat):Int)*(t.iL.length:Int)<=281474976710656/\((t.iL.length:Int):Int)<=9223372036854775807),.s (Sp.jP (Tn t xs p m) 0 m aD (λx hx lp=>by
    exact iM (ae [tT 44 ((x:Int)<m) aD,.c (abM t (iS t.ik xs p t.ik.length) x p h hr h1 BA U8 iD iq),.s (Sp.jP (To t xs p m x) 0 t.iL.length aD (λk hk qI=>by
    have UM:=h.out k aD;have hle:jU (lv t.iL.length (mT t xs p) x k) k=x:=ak6 aD ;have zW:=D0 t (iS t.ik xs p t.ik.length) x p t.ik.length;have qJ:=oC ((jW t (iS t.ik xs p t.ik.length) x p t.ik.length).getD (t.iL.getD k 0) il);exact iM (ae [tT 55 ((k:Int)<t.iL.length) aD,iX (k:Int) (t.iL.length) aD,iX (k:Int) (t.iL.length) aD,.a (aD:k<t.iL.length),
     iX (t.iL.getD k 0:Int) ((jW t (iS t.ik xs p t.ik.length) x p t.ik.length).length) aD,.o 69 (.e (mr _):aj (.sl true 1 7 λi_ j_=>(iZ ((jW t (iS t.ik xs p t.ik.length) x p t.ik.length).getD (t.iL.getD k 0) il)).getD (i_*7+j_) (.v (.bool false))) (iz [(jW t (iS t.ik xs p t.ik.length) x p t.ik.length).getD (t.iL.getD k 0) il])),.a (aD:k<t.iL.length),.a (aD:((jU (lv t.iL.length (mT t xs p) x k)) k+[(jW t (iS t.ik xs p t.ik.length) x p t.ik.length).getD (t.iL.getD k 0) il].length)*88<=140737488355328),
     iX (k:Int) (t.iL.length) aD,.a (rfl:k=k),.a (rfl:k=k),.a (aD:k<t.iL.length),iC ((k:Int)+1) aD]<|.e (af [.b 41 (ala rfl rfl aD rfl:Bx.le (.jm true 35 33 t.iL.length 7 (λq=>if q=k then(jU (lv t.iL.length (mT t xs p) x k)) q+[(jW t (iS t.ik xs p t.ik.length) x p t.ik.length).getD (t.iL.getD k 0) il].length else(jU (lv t.iL.length (mT t xs p) x k)) q) (λq i j=>if q=k then(if i<(jU (lv t.iL.length (mT t xs p) x k)) q then(kQ (lv t.iL.length (mT t xs p) x k)) q i j else(E.jH (iz [(jW t (iS t.ik xs p t.ik.length) x p t.ik.length).getD (t.iL.getD k 0) il])) (i-(jU (lv t.iL.length (mT t xs p) x k)) q) j)else(kQ (lv t.iL.length (mT t xs p) x k)) q i j) .none) (.jm true 35 33 t.iL.length 7 (jU (lv t.iL.length (mT t xs p) x (k+1))) (kQ (lv t.iL.length (mT t xs p) x (k+1))) .none))])) aG)
  (λhk=>by
    exact iM (af [tF 55 ((t.iL.length:Int)<t.iL.length) aD]) aG) aK:jO 10 f183 (To t xs p m x 0) (.exit 2) ⟨91,true,[(43,.e (iP x)),(42,.e (iP m)),(11,.own 41),(10,.e (iz (iS t.ik xs p t.ik.length))),(4,.box 4 0),(3,.e (iP p))],[(41,.jm true 35 33 t.iL.length 7 (jU (lv t.iL.length (mT t xs p) x t.iL.length)) (kQ (lv t.iL.length (mT t xs p) x t.iL.length)) .none),(4,.cells 39 [iP t.iW,mw t.ik,mu t.iL])]⟩) .nil,
     iC ((x:Int)+1) aD]<|.e (af [.b 41 (ak9 rfl:Bx.le (.jm true 35 33 t.iL.length 7 (jU (lv t.iL.length (mT t xs p) x t.iL.length)) (kQ (lv t.iL.length (mT t xs p) x t.iL.length)) .none) (.jm true 35 33 t.iL.length 7 (jU (lv t.iL.length (mT t xs p) (x+1) 0)) (kQ (lv t.iL.length (mT t xs p) (x+1) 0)) .none))])) aG)
  (λhx=>by
    exact iM (af [tF 44 ((m:Int)<m) aD]) aG) aK:jO 6 f183 (Tn t xs p m 0) (.exit 0) ⟨91,true,[(11,.own 41),(10,.e (iz (iS t.ik xs p t.ik.length))),(4,.box 4 0)],[(41,.jm true 35 33 t.iL.length 7 (jU (lv t.iL.length (mT t xs p) m 0)) (kQ (lv t.iL.length (mT t xs p) m 0)) .none),(4,.cells 39 [iP t.iW,mw t.ik,mu t.iL])]⟩) (af [.b 41 (ak8 rfl:Bx.le (.jm true 35 33 t.iL.length 7 (λ_=>0) (λ_ _ _=>.any) .none) (.jm true 35 33 t.iL.length 7 (jU (lv t.iL.length (mT t xs p) 0 0)) (kQ (lv t.iL.length (mT t xs p) 0 0)) .none))]),.y 16 16 true 33 7 (jF ((List.range 0).map (λj_=>(iS t.ik xs p t.ik.length).getD (t.iL.getD j_ 0) il))),.s (Sp.jP (Tp t xs p m) 0 t.iL.length aD (λx hx lp=>by
    have UM:=h.out x aD;have ED:=B6 t.ik xs p t.ik.length;have qJ:=oC ((iS t.ik xs p t.ik.length).getD (t.iL.getD x 0) il);exact iM (ae [tT 78 ((x:Int)<t.iL.length) aD,iX (x:Int) (t.iL.length) aD,iX (t.iL.getD x 0:Int) ((iS t.ik xs p t.ik.length).length) aD,.o 86 (.e (mr _):aj (.sl true 1 7 λi_ j_=>(iZ ((iS t.ik xs p t.ik.length).getD (t.iL.getD x 0) il)).getD (i_*7+j_) (.v (.bool false))) (iz [(iS t.ik xs p t.ik.length).getD (t.iL.getD x 0) il])),.a (aD:(x+[(iS t.ik xs p t.ik.length).getD (t.iL.getD x 0) il].length)*88<=140737488355328),iC ((x:Int)+1) aD]<|.e (af [.b 16 (xP rfl rfl rfl:Bx.le (.row true 33 (x+[(iS t.ik xs p t.ik.length).getD (t.iL.getD x 0) il].length) 7 (λi_ j_=>if i_<x then(jF ((List.range x).map (λj_=>(iS t.ik xs p t.ik.length).getD (t.iL.getD j_ 0) il))) i_ j_ else(E.jH (iz [(iS t.ik xs p t.ik.length).getD (t.iL.getD x 0) il])) (i_-x) j_)) (.row true 33 (x+1) 7 (jF ((List.range (x+1)).map (λj_=>(iS t.ik xs p t.ik.length).getD (t.iL.getD j_ 0) il)))))])) aG)
  (λhx=>by
    exact iM (ae [tF 78 ((t.iL.length:Int)<t.iL.length) aD,.z 16]<|.e (af [.o 16 (.e (wV aJ):aj (.sl true t.iL.length 7 (jF ((List.range t.iL.length).map (λj_=>(iS t.ik xs p t.ik.length).getD (t.iL.getD j_ 0) il)))) (iz ((List.range t.iL.length).map (λj_=>(iS t.ik xs p t.ik.length).getD (t.iL.getD j_ 0) il))))])) aG) aK:jO 17 f183 (Tp t xs p m 0) (.exit 4) ⟨91,true,[(16,.e (iz ((List.range t.iL.length).map (λj_=>(iS t.ik xs p t.ik.length).getD (t.iL.getD j_ 0) il)))),(11,.own 41)],[(41,.jm true 35 33 t.iL.length 7 (jU (lv t.iL.length (mT t xs p) m 0)) (kQ (lv t.iL.length (mT t xs p) m 0)) .none)]⟩) .nil]<|rR (.iB [iz (ko t xs p),iU (qN t xs p m)]) (.iB (.cons (.jb (by rw[S3])) (.cons (I8 (YX _ _ _ _).symm) .nil)):E.le (.iB [iz ((List.range t.iL.length).map (λj_=>(iS t.ik xs p t.ik.length).getD (t.iL.getD j_ 0) il)),(.sl true t.iL.length 1 λk_ _=>.sl true ((jU (lv t.iL.length (mT t xs p) m 0)) k_) 7 ((kQ (lv t.iL.length (mT t xs p) m 0)) k_))]) (.iB [iz (ko t xs p),iU (qN t xs p m)]))) 
def adT(s:kG)(b:List Iv)(p:Nat)(h:mO s)(hb:kU s.jo b)(hr:uP s.tape)(iD:8<=p)(iq:p<=512)(hn:mY (ko s.tape (b++s.params) p)=true):ig 103 [lI s,iz b,iP s.jo,iP p] (.iB [.v (.slice none 0 0),.v (.slice none 0 0),iP 11]):=by
 have s4:=h.s4;have p4:=h.p4;have Bn:=hb.len;have xF:=h.tape.iL;have ug:=FI hb.ok;have yJ:=Bf s.tape (b++s.params) p;obtain⟨f1,f2,f3,f4⟩:=zJ h hb;have zY:=Fc s.tape (b++s.params) p s.jo;have IM:=h.iL;have UU:=h.iW;have vt:s.jo<=1000:= aD ;exact ak call103 func103 (af [.c (DA s aE),ai 21 ((b.length:Int) != (s.jo:Int)) (sD hb.len),.c (tX b aD),ai 25 (mY b) ug,.c (xN true _ _ 181 [] (λ_=>false) (λi hi=>El _ (hb.ok i hi).1) aD (λ_ _=>rfl):ig 150 [iz b,.fn 181 []] _),.c (CA (p:Int)),ah 32 (kT (p:Int)) (oM.2 ⟨aD,aD⟩),.o 40 (.e (Fo _ _):aj (.sl true 2 1 λi_ j_=>[iz b,iz s.params].getD (i_*1+j_) (.v (.bool false))) (iU [b,s.params])),ag [iU [b,s.params]] (D2 b s.params aD aD),.c (LL s.tape (b++s.params) p s.jo f1 f2 f3 f4 hr aD aD aD),.c (tX (ko s.tape (b++s.params) p) aD),ah 48 (mY (ko s.tape (b++s.params) p)) hn]) 
def adU(s:kG)(b:List Iv)(p:Nat)(h:mO s)(hb:kU s.jo b)(hr:uP s.tape)(iD:8<=p)(iq:p<=512)(hn:mY (ko s.tape (b++s.params) p)=false)(kx:Cn (qN s.tape (b++s.params) p s.jo)=true):ig 103 [lI s,iz b,iP s.jo,iP p] (.iB [.v (.slice none 0 0),.v (.slice none 0 0),iP 11]):=by
 have s4:=h.s4;have p4:=h.p4;have Bn:=hb.len;have xF:=h.tape.iL;have ug:=FI hb.ok;have yJ:=Bf s.tape (b++s.params) p;obtain⟨f1,f2,f3,f4⟩:=zJ h hb;have zY:=Fc s.tape (b++s.params) p s.jo;have IM:=h.iL;have UU:=h.iW;have vt:s.jo<=1000:= aD ;exact ak call103 func103 (af [.c (DA s aE),ai 21 ((b.length:Int) != (s.jo:Int)) (sD hb.len),.c (tX b aD),ai 25 (mY b) ug,.c (xN true _ _ 181 [] (λ_=>false) (λi hi=>El _ (hb.ok i hi).1) aD (λ_ _=>rfl):ig 150 [iz b,.fn 181 []] _),.c (CA (p:Int)),ah 32 (kT (p:Int)) (oM.2 ⟨aD,aD⟩),.o 40 (.e (Fo _ _):aj (.sl true 2 1 λi_ j_=>[iz b,iz s.params].getD (i_*1+j_) (.v (.bool false))) (iU [b,s.params])),ag [iU [b,s.params]] (D2 b s.params aD aD),.c (LL s.tape (b++s.params) p s.jo f1 f2 f3 f4 hr aD aD aD),.c (tX (ko s.tape (b++s.params) p) aD),ai 48 (mY (ko s.tape (b++s.params) p)) hn,.c (JS true _ _ 180 [] (λi=>mY ((qN s.tape (b++s.params) p s.jo).getD i [])) (λi hi=>tX _ (VM vt i)) aD:ig 148 [iU (qN s.tape (b++s.params) p s.jo),.fn 180 []] _),ah 51 (Cn (qN s.tape (b++s.params) p s.jo)) kx]) 
def adV(s:kG)(b:List Iv)(p:Nat)(h:mO s)(hb:kU s.jo b)(hr:uP s.tape)(iD:8<=p)(iq:p<=512)(hn:mY (ko s.tape (b++s.params) p)=false)(kx:Cn (qN s.tape (b++s.params) p s.jo)=false):ig 103 [lI s,iz b,iP s.jo,iP p] (.iB [iz (ko s.tape (b++s.params) p),iU (qN s.tape (b++s.params) p s.jo),iP 0]):=by
 have s4:=h.s4;have p4:=h.p4;have Bn:=hb.len;have xF:=h.tape.iL;have ug:=FI hb.ok;have yJ:=Bf s.tape (b++s.params) p;obtain⟨f1,f2,f3,f4⟩:=zJ h hb;have zY:=Fc s.tape (b++s.params) p s.jo;have IM:=h.iL;have UU:=h.iW;have vt:s.jo<=1000:= aD ;exact ak call103 func103 (af [.c (DA s aE),ai 21 ((b.length:Int) != (s.jo:Int)) (sD hb.len),.c (tX b aD),ai 25 (mY b) ug,.c (xN true _ _ 181 [] (λ_=>false) (λi hi=>El _ (hb.ok i hi).1) aD (λ_ _=>rfl):ig 150 [iz b,.fn 181 []] _),.c (CA (p:Int)),ah 32 (kT (p:Int)) (oM.2 ⟨aD,aD⟩),.o 40 (.e (Fo _ _):aj (.sl true 2 1 λi_ j_=>[iz b,iz s.params].getD (i_*1+j_) (.v (.bool false))) (iU [b,s.params])),ag [iU [b,s.params]] (D2 b s.params aD aD),.c (LL s.tape (b++s.params) p s.jo f1 f2 f3 f4 hr aD aD aD),.c (tX (ko s.tape (b++s.params) p) aD),ai 48 (mY (ko s.tape (b++s.params) p)) hn,.c (JS true _ _ 180 [] (λi=>mY ((qN s.tape (b++s.params) p s.jo).getD i [])) (λi hi=>tX _ (VM vt i)) aD:ig 148 [iU (qN s.tape (b++s.params) p s.jo),.fn 180 []] _),ai 51 (Cn (qN s.tape (b++s.params) p s.jo)) kx]) 
def ad1(s:kG)(b:List Iv)(p:Nat)(kp:ig 103 [lI s,iz b,iP (s.jo:Int),iP (p:Int)] (.iB [.v (.slice none 0 0),.v (.slice none 0 0),iP 11])):ig 39 [lI s,iz b,iP p] (.iB [.v (.slice none 0 0),iP 11]):=
 ak call39 func39 (af [ag [lI s,iz b,iP s.jo,iP p] kp]) 
def ad2(s:kG)(b:List Iv)(p:Nat)(h:mO s)(hb:kU s.jo b)(hr:uP s.tape)(iD:8<=p)(iq:p<=512)(hn:mY (ko s.tape (b++s.params) p)=false)(kx:Cn (qN s.tape (b++s.params) p s.jo)=false):ig 39 [lI s,iz b,iP p] (.iB [iU (qN s.tape (b++s.params) p s.jo),iP 0]):=
 ak call39 func39 (af [ag [lI s,iz b,iP s.jo,iP p] (adV _ _ _ h hb hr iD iq hn kx)]) 
def ad0(s:kG)(b:List Iv)(p:Nat)(h:mO s)(hb:kU s.jo b)(hr:uP s.tape)(iD:8<=p)(iq:p<=512)(hn:Fb s b p=true):ig 39 [lI s,iz b,iP (p:Int)] (.iB [.v (.slice none 0 0),iP 11]):=by
 unfold Fb at hn;refine ad1 s b p ?_;cases h1:mY (ko s.tape (b++s.params) p)with
 |true=>exact adT s b p h hb hr iD iq h1
 |false=>
  rw[h1,fN]at hn;exact adU s b p h hb hr iD iq h1 hn
def ad3(s:kG)(b:List Iv)(p:Nat)(h:mO s)(hb:kU s.jo b)(hr:uP s.tape)(iD:8<=p)(iq:p<=512)(hn:Fb s b p=false):ig 39 [lI s,iz b,iP (p:Int)] (.iB [iU (q8 s b p),iP 0]):=by
 unfold Fb at hn;rw[Bool.or_eq_false_iff]at hn;exact ad2 s b p h hb hr iD iq hn.1 hn.2
def No{s:kG}(h:mO s)(b:List Iv)(p:Nat):(q8 s b p).length=s.jo:=by unfold q8;rw[Fc,h.iL]
def af7{s:kG}(h:mO s)(b:List Iv)(p:Nat){i:Nat}(hi:i<s.jo):((q8 s b p).getD i []).length=s.jo:=by
 unfold q8;rw[I3 (by rw[h.iL];exact hi)];simp
def af8{s:kG}(h:mO s){b:List Iv}(hb:kU s.jo b){p:Nat}(hp:1<=p)(iq:p<=4096)(i j:Nat):(((q8 s b p).getD i []).getD j il).iu:=by
 obtain⟨f1,f2,f3,f4⟩:=zJ h hb;by_cases hi:i<s.tape.iL.length
 .unfold q8;rw[I3 hi];by_cases hj:j<s.jo
  .rw [s7 hj];exact af6 _ f4 hp iq _ _
  .rw [bu,cw (by simpa using hj)];exact mA
 .rw [bu (l:=q8 s b p),cw (by rw[No h];rw[h.iL]at hi;omega)];exact mA
def Np{s:kG}(h:mO s){b:List Iv}(hb:kU s.jo b){p:Nat}(hp:1<=p)(iq:p<=4096):ke (q8 s b p) s.jo s.jo:=by
 have s1:=h.s1;have s4:=h.s4;have lL:∀ {α:Type} {l:List α} {x:α} (d:α),x ∈ l->∃ i,i<l.length/\l.getD i d=x:=λd hx=>by
  obtain⟨i,hi,e⟩:=am4 hx;exact⟨i,hi,by rw[bu,bD hi];exact e⟩
 refine⟨No h b p,λr hr=>?_,λr hr x hx=>?_,aD,aD,aD,aD⟩
 .obtain ⟨i,hi,rfl⟩:=lL [] hr;rw[No h]at hi;exact af7 h b p hi
 .obtain ⟨i,hi,rfl⟩:=lL [] hr;obtain⟨j,hj,rfl⟩:=lL il hx;exact af8 h hb hp iq i j
def mM:kG:=⟨⟨1,[⟨8,0,0,2,0,0⟩,⟨7,1,0,0,0,0⟩],[2]⟩,1,[]⟩
def Pw:mO mM:=by
 refine⟨⟨aF,aF,aF,λi hi=>?_,λi hi=>?_⟩,aF,aF,rfl,rfl,aF,λi hi=>absurd hi (bO i)⟩
 .have hi:i<2:=hi;obtain rfl|rfl:i=0\/i=1:= aD 
  .exact ⟨aF,aF,aF,rfl,by show 2<=16;decide,⟨rfl,rfl⟩,.inl aF⟩
  .exact ⟨aF,aF,aF,rfl,rfl,⟨rfl,rfl⟩,.inl aF⟩
 .have hi:i<1:=hi;obtain rfl:i=0:= aD ;decide
def J2{B:Iv}(v:B.iu)(a:B.all=false):kU 1 [B]:=⟨rfl,λi hi=>by
 have hi:i<1:=hi;obtain rfl:i=0:= aD ;exact⟨v,a⟩⟩
def Q7{b:List Iv}(h:kU 1 b):∃ B,b=[B]/\B.iu/\B.all=false:=by
 obtain⟨hl,ho⟩:=h;rcases b with _|⟨B,_|⟨C,l⟩⟩
 .simp at hl
 .exact ⟨B,rfl,(ho 0 aJ).1,(ho 0 aJ).2⟩
 .simp at hl
def ahu(B:Iv)(p:Nat):ko mM.tape ([B]++mM.params) p=[nL (nX B 2 p)]:=rfl
def Rf : ig 88 [.v (.string ⟨#[120]⟩)] (.agg [iP 2,iP 0,iP 0,.v (.string ⟨#[120]⟩),iP 0,.v (.slice none 0 0)]):=
 ak call88 func88 (.nil) 
def Rg : ig 88 [.v (.string ⟨#[121]⟩)] (.agg [iP 2,iP 0,iP 0,.v (.string ⟨#[121]⟩),iP 0,.v (.slice none 0 0)]):=
 ak call88 func88 (.nil) 
def Rh : ig 88 [.v (.string ⟨#[116]⟩)] (.agg [iP 2,iP 0,iP 0,.v (.string ⟨#[116]⟩),iP 0,.v (.slice none 0 0)]):=
 ak call88 func88 (.nil) 
def Ri : ig 88 [.v (.string ⟨#[97]⟩)] (.agg [iP 2,iP 0,iP 0,.v (.string ⟨#[97]⟩),iP 0,.v (.slice none 0 0)]):=
 ak call88 func88 (.nil) 
def cc5 : ig 90 [.agg [iP 2,iP 0,iP 0,.v (.string ⟨#[120]⟩),iP 0,.v (.slice none 0 0)]] (.agg [iP 8,iP 0,iP 0,.v (.string ⟨#[]⟩),iP 2,(.sl true 1 6 λi_ j_=>[iP 2,iP 0,iP 0,.v (.string ⟨#[120]⟩),iP 0,.v (.slice none 0 0)].getD (i_*6+j_) (.v (.bool false)))]):=
 ak call90 func90 (.nil) 
def cc6 : ig 89 [iP 7,.agg [iP 8,iP 0,iP 0,.v (.string ⟨#[]⟩),iP 2,(.sl true 1 6 λi_ j_=>[iP 2,iP 0,iP 0,.v (.string ⟨#[120]⟩),iP 0,.v (.slice none 0 0)].getD (i_*6+j_) (.v (.bool false)))]] (.agg [iP 7,iP 0,iP 0,.v (.string ⟨#[]⟩),iP 0,(.sl true 1 6 λi_ j_=>[iP 8,iP 0,iP 0,.v (.string ⟨#[]⟩),iP 2,(.sl true 1 6 λi_ j_=>[iP 2,iP 0,iP 0,.v (.string ⟨#[120]⟩),iP 0,.v (.slice none 0 0)].getD (i_*6+j_) (.v (.bool false)))].getD (i_*6+j_) (.v (.bool false)))]):=
 ak call89 func89 (.nil) 
def cc7 : ig 32 [iP 0] (.iB [(.sl true 1 1 λi_ j_=>[.v (.string ⟨#[120]⟩)].getD (i_*1+j_) (.v (.bool false))),.v (.slice none 0 0),(.sl true 1 6 λi_ j_=>[iP 7,iP 0,iP 0,.v (.string ⟨#[]⟩),iP 0,(.sl true 1 6 λi_ j_=>[iP 8,iP 0,iP 0,.v (.string ⟨#[]⟩),iP 2,(.sl true 1 6 λi_ j_=>[iP 2,iP 0,iP 0,.v (.string ⟨#[120]⟩),iP 0,.v (.slice none 0 0)].getD (i_*6+j_) (.v (.bool false)))].getD (i_*6+j_) (.v (.bool false)))].getD (i_*6+j_) (.v (.bool false)))]):=
 ak call32 func32 (af [.c Rf,.c Rg,.c Rh,.c Ri,ah 15 ((0:Int)==0) aF,.c cc5,.c cc6]) 
def Rj : ig 162 [.sl true (1+0) 1 (λi_ j_=>if i_<1 then(λi_ j_=>if i_<0 then(λi_ j_=>([]:List E).getD (i_*1+j_) (.v (.bool false))) i_ j_ else(E.jH (.sl true 1 1 λi_ j_=>[.v (.string ⟨#[120]⟩)].getD (i_*1+j_) (.v (.bool false)))) (i_-0) j_) i_ j_ else(E.jH (.sl true 0 1 λ_ _=>.any)) (i_-1) j_),.v (.string ⟨#[120]⟩)] (iP 0):=
 ak call162 func162 (af [.u 12,ah 9 (decide ((0:Int)<1)) aF,iX 0 1 aD,.g (Jr (ado _):pq prog .eql 9 (.v (.string ⟨#[120]⟩)) (.v (.string ⟨#[120]⟩)) (.bool true))]) 
def cc9 : ig 93 [.agg [iP 1,.v (.slice none 0 0),.v (.slice none 0 0)],.agg [iP 2,iP 0,iP 0,.v (.string ⟨#[120]⟩),iP 0,.v (.slice none 0 0)],.sl true (1+0) 1 (λi_ j_=>if i_<1 then(λi_ j_=>if i_<0 then(λi_ j_=>([]:List E).getD (i_*1+j_) (.v (.bool false))) i_ j_ else(E.jH (.sl true 1 1 λi_ j_=>[.v (.string ⟨#[120]⟩)].getD (i_*1+j_) (.v (.bool false)))) (i_-0) j_) i_ j_ else(E.jH (.sl true 0 1 λ_ _=>.any)) (i_-1) j_)] (.iB [.agg [iP 1,.v (.slice none 0 0),.v (.slice none 0 0)],iP 0]):=
 ak call93 func93 (af [ah 15 ((2:Int)==2) aF,.c Rj]) 
def abm : ig 93 [.agg [iP 1,.v (.slice none 0 0),.v (.slice none 0 0)],.agg [iP 8,iP 0,iP 0,.v (.string ⟨#[]⟩),iP 2,(.sl true 1 6 λi_ j_=>[iP 2,iP 0,iP 0,.v (.string ⟨#[120]⟩),iP 0,.v (.slice none 0 0)].getD (i_*6+j_) (.v (.bool false)))],.sl true (1+0) 1 (λi_ j_=>if i_<1 then(λi_ j_=>if i_<0 then(λi_ j_=>([]:List E).getD (i_*1+j_) (.v (.bool false))) i_ j_ else(E.jH (.sl true 1 1 λi_ j_=>[.v (.string ⟨#[120]⟩)].getD (i_*1+j_) (.v (.bool false)))) (i_-0) j_) i_ j_ else(E.jH (.sl true 0 1 λ_ _=>.any)) (i_-1) j_)] (.iB [.agg [iP 1,.sl true (0+1) 6 (λi_ j_=>if i_<0 then(λi_ j_=>if i_<0 then(λi_ j_=>([]:List E).getD (i_*6+j_) (.v (.bool false))) i_ j_ else(E.jH (.sl true 0 6 λ_ _=>.any)) (i_-0) j_) i_ j_ else(E.jH (.sl true 1 6 λi_ j_=>[iP 8,iP 0,iP 0,iP 2,iP 0,iP 0].getD (i_*6+j_) (.v (.bool false)))) (i_-0) j_),.v (.slice none 0 0)],iP ((1+1)-1)]):=
 ak call93 func93 (af [ai 15 ((8:Int)==2) aF,.u 12,ah 32 (decide ((0:Int)<1)) aF,iX 0 1 aD,.c cc9,ah 48 ((0:Int)==0) aF,iC (0+1) aD,.k [9,8,6,4,3,2] [8,3,6,4],ai 32 (decide (((0+1):Int)<1)) aF,.u 12,.o 55 (.e (.nil _ _ _):aj (.v (.slice none 0 0)) (.sl true 0 6 λ_ _=>.any)),ai 57 (decide ((0:Int)<0)) aF,.bo,.o 74 (.e (.nil _ _ _):aj (.v (.slice none 0 0)) (.sl true 0 6 λ_ _=>.any)),.a (aD:(0+0)*48<=140737488355328),.o 77 (.refl _:aj (.sl true 1 6 λi_ j_=>[iP 8,iP 0,iP 0,iP 2,iP 0,iP 0].getD (i_*6+j_) (.v (.bool false))) (.sl true 1 6 λi_ j_=>[iP 8,iP 0,iP 0,iP 2,iP 0,iP 0].getD (i_*6+j_) (.v (.bool false)))),
  .bo,.a (aD:(0+1)*48<=140737488355328),iC (1+1) aD,iC ((1+1)-1) aD]) 
def abn : ig 93 [.agg [iP 1,.v (.slice none 0 0),.v (.slice none 0 0)],.agg [iP 7,iP 0,iP 0,.v (.string ⟨#[]⟩),iP 0,(.sl true 1 6 λi_ j_=>[iP 8,iP 0,iP 0,.v (.string ⟨#[]⟩),iP 2,(.sl true 1 6 λi_ j_=>[iP 2,iP 0,iP 0,.v (.string ⟨#[120]⟩),iP 0,.v (.slice none 0 0)].getD (i_*6+j_) (.v (.bool false)))].getD (i_*6+j_) (.v (.bool false)))],.sl true (1+0) 1 (λi_ j_=>if i_<1 then(λi_ j_=>if i_<0 then(λi_ j_=>([]:List E).getD (i_*1+j_) (.v (.bool false))) i_ j_ else(E.jH (.sl true 1 1 λi_ j_=>[.v (.string ⟨#[120]⟩)].getD (i_*1+j_) (.v (.bool false)))) (i_-0) j_) i_ j_ else(E.jH (.sl true 0 1 λ_ _=>.any)) (i_-1) j_)] (.iB [.agg [iP 1,.sl true (1+1) 6 (λi_ j_=>if i_<1 then(λi_ j_=>if i_<0 then(λi_ j_=>([]:List E).getD (i_*6+j_) (.v (.bool false))) i_ j_ else(E.jH (.sl true (0+1) 6 (λi_ j_=>if i_<0 then(λi_ j_=>if i_<0 then(λi_ j_=>([]:List E).getD (i_*6+j_) (.v (.bool false))) i_ j_ else(E.jH (.sl true 0 6 λ_ _=>.any)) (i_-0) j_) i_ j_ else(E.jH (.sl true 1 6 λi_ j_=>[iP 8,iP 0,iP 0,iP 2,iP 0,iP 0].getD (i_*6+j_) (.v (.bool false)))) (i_-0) j_))) (i_-0) j_) i_ j_ else(E.jH (.sl true 1 6 λi_ j_=>[iP 7,iP ((1+1)-1),iP 0,iP 0,iP 0,iP 0].getD (i_*6+j_) (.v (.bool false)))) (i_-1) j_),.v (.slice none 0 0)],iP ((1+2)-1)]):=
 ak call93 func93 (af [ai 15 ((7:Int)==2) aF,.u 12,ah 32 (decide ((0:Int)<1)) aF,iX 0 1 aD,.c abm,ah 48 ((0:Int)==0) aF,iC (0+1) aD,.k [9,8,6,4,3,2] [8,3,6,4],ai 32 (decide (((0+1):Int)<1)) aF,.u 12,ah 57 (decide ((0:Int)<1)) aF,iX 0 1 aD,.g (ah0 aG aG aG aG aF:pq prog .eql 161 (.agg [iP 8,iP 0,iP 0,iP 2,iP 0,iP 0]) (.agg [iP 7,iP ((1+1)-1),iP 0,iP 0,iP 0,iP 0]) (.bool false)),
  iC (0+1) aD,.k [12,8,6,3] [8,3,6],ai 57 (decide (((0+1):Int)<1)) aF,.bo,.a (aD:(0+1)*48<=140737488355328),.o 77 (.refl _:aj (.sl true 1 6 λi_ j_=>[iP 7,iP ((1+1)-1),iP 0,iP 0,iP 0,iP 0].getD (i_*6+j_) (.v (.bool false))) (.sl true 1 6 λi_ j_=>[iP 7,iP ((1+1)-1),iP 0,iP 0,iP 0,iP 0].getD (i_*6+j_) (.v (.bool false)))),
  .bo,.a (aD:(1+1)*48<=140737488355328),iC (1+2) aD,iC ((1+2)-1) aD]) 
def abo : ig 33 [(.sl true 1 6 λi_ j_=>[iP 7,iP 0,iP 0,.v (.string ⟨#[]⟩),iP 0,(.sl true 1 6 λi_ j_=>[iP 8,iP 0,iP 0,.v (.string ⟨#[]⟩),iP 2,(.sl true 1 6 λi_ j_=>[iP 2,iP 0,iP 0,.v (.string ⟨#[120]⟩),iP 0,.v (.slice none 0 0)].getD (i_*6+j_) (.v (.bool false)))].getD (i_*6+j_) (.v (.bool false)))].getD (i_*6+j_) (.v (.bool false))),.sl true (1+0) 1 (λi_ j_=>if i_<1 then(λi_ j_=>if i_<0 then(λi_ j_=>([]:List E).getD (i_*1+j_) (.v (.bool false))) i_ j_ else(E.jH (.sl true 1 1 λi_ j_=>[.v (.string ⟨#[120]⟩)].getD (i_*1+j_) (.v (.bool false)))) (i_-0) j_) i_ j_ else(E.jH (.sl true 0 1 λ_ _=>.any)) (i_-1) j_)] (.agg [iP 1,.sl true (1+1) 6 (λi_ j_=>if i_<1 then(λi_ j_=>if i_<0 then(λi_ j_=>([]:List E).getD (i_*6+j_) (.v (.bool false))) i_ j_ else(E.jH (.sl true (0+1) 6 (λi_ j_=>if i_<0 then(λi_ j_=>if i_<0 then(λi_ j_=>([]:List E).getD (i_*6+j_) (.v (.bool false))) i_ j_ else(E.jH (.sl true 0 6 λ_ _=>.any)) (i_-0) j_) i_ j_ else(E.jH (.sl true 1 6 λi_ j_=>[iP 8,iP 0,iP 0,iP 2,iP 0,iP 0].getD (i_*6+j_) (.v (.bool false)))) (i_-0) j_))) (i_-0) j_) i_ j_ else(E.jH (.sl true 1 6 λi_ j_=>[iP 7,iP ((1+1)-1),iP 0,iP 0,iP 0,iP 0].getD (i_*6+j_) (.v (.bool false)))) (i_-1) j_),.sl true (0+1) 1 (λi_ j_=>if i_<0 then(λi_ j_=>if i_<0 then(λi_ j_=>([]:List E).getD (i_*1+j_) (.v (.bool false))) i_ j_ else(E.jH (.sl true 0 1 λ_ _=>.any)) (i_-0) j_) i_ j_ else(E.jH (.sl true 1 1 λi_ j_=>[iP ((1+2)-1)].getD (i_*1+j_) (.v (.bool false)))) (i_-0) j_)]):=
 ak call33 func33 (af [.u 12,ah 15 (decide ((0:Int)<1)) aF,iX 0 1 aD,.c abn,.bo,.o 31 (.e (.nil _ _ _):aj (.v (.slice none 0 0)) (.sl true 0 1 λ_ _=>.any)),.a (aD:(0+0)*8<=140737488355328),.o 34 (.refl _:aj (.sl true 1 1 λi_ j_=>[iP ((1+2)-1)].getD (i_*1+j_) (.v (.bool false))) (.sl true 1 1 λi_ j_=>[iP ((1+2)-1)].getD (i_*1+j_) (.v (.bool false)))),.bo,.a (aD:(0+1)*8<=140737488355328),iC (0+1) aD,.k [6,5,4,0,1] [5,4],ai 15 (decide (((0+1):Int)<1)) aF]) 
def abp : ig 9 [iP 0,.v (.slice none 0 0)] (.agg [iP 1,.sl true (1+1) 6 (λi_ j_=>if i_<1 then(λi_ j_=>if i_<0 then(λi_ j_=>([]:List E).getD (i_*6+j_) (.v (.bool false))) i_ j_ else(E.jH (.sl true (0+1) 6 (λi_ j_=>if i_<0 then(λi_ j_=>if i_<0 then(λi_ j_=>([]:List E).getD (i_*6+j_) (.v (.bool false))) i_ j_ else(E.jH (.sl true 0 6 λ_ _=>.any)) (i_-0) j_) i_ j_ else(E.jH (.sl true 1 6 λi_ j_=>[iP 8,iP 0,iP 0,iP 2,iP 0,iP 0].getD (i_*6+j_) (.v (.bool false)))) (i_-0) j_))) (i_-0) j_) i_ j_ else(E.jH (.sl true 1 6 λi_ j_=>[iP 7,iP ((1+1)-1),iP 0,iP 0,iP 0,iP 0].getD (i_*6+j_) (.v (.bool false)))) (i_-1) j_),.sl true (0+1) 1 (λi_ j_=>if i_<0 then(λi_ j_=>if i_<0 then(λi_ j_=>([]:List E).getD (i_*1+j_) (.v (.bool false))) i_ j_ else(E.jH (.sl true 0 1 λ_ _=>.any)) (i_-0) j_) i_ j_ else(E.jH (.sl true 1 1 λi_ j_=>[iP ((1+2)-1)].getD (i_*1+j_) (.v (.bool false)))) (i_-0) j_),iP 1,.v (.slice none 0 0)]):=
 ak call9 func9 (af [.c cc7,.bo,.a (aD:(0+1)*16<=140737488355328),.o 18 (.e (.nil _ _ _):aj (.v (.slice none 0 0)) (.sl true 0 1 λ_ _=>.any)),.bo,.a (aD:(1+0)*16<=140737488355328),.c abo]) 
def abl:ig 9 [iP 0,.v (.slice none 0 0)] (lI mM):=by
 refine abp.kj (.agg (.cons (.refl _) (.cons ?_ (.cons ?_ (.cons (.refl _) (.cons (.nil _ _ _) .nil))))))
 .refine .sl λi j hi hj=>?_
  have hi:i<2:=hi;obtain rfl|rfl:i=0\/i=1:= aD 
  all_goals
   rcases j with _|_|_|_|_|_|j
   all_goals first|exact⟨.jb rfl,rfl⟩|omega
 .refine .sl λi j hi hj=>?_
  have hi:i<1:=hi;obtain rfl:i=0:= aD ;obtain rfl:j=0:= aD ;exact⟨.jb rfl,rfl⟩
def abq : ig 91 [iP 5,.agg [iP 2,iP 0,iP 0,.v (.string ⟨#[97]⟩),iP 0,.v (.slice none 0 0)],.agg [iP 2,iP 0,iP 0,.v (.string ⟨#[120]⟩),iP 0,.v (.slice none 0 0)]] (.agg [iP 5,iP 0,iP 0,.v (.string ⟨#[]⟩),iP 0,(.sl true 2 6 λi_ j_=>[iP 2,iP 0,iP 0,.v (.string ⟨#[97]⟩),iP 0,.v (.slice none 0 0),iP 2,iP 0,iP 0,.v (.string ⟨#[120]⟩),iP 0,.v (.slice none 0 0)].getD (i_*6+j_) (.v (.bool false)))]):=
 ak call91 func91 (.nil) 
def abr : ig 32 [iP 4] (.iB [(.sl true 1 1 λi_ j_=>[.v (.string ⟨#[120]⟩)].getD (i_*1+j_) (.v (.bool false))),(.sl true 1 1 λi_ j_=>[.v (.string ⟨#[97]⟩)].getD (i_*1+j_) (.v (.bool false))),(.sl true 1 6 λi_ j_=>[iP 5,iP 0,iP 0,.v (.string ⟨#[]⟩),iP 0,(.sl true 2 6 λi_ j_=>[iP 2,iP 0,iP 0,.v (.string ⟨#[97]⟩),iP 0,.v (.slice none 0 0),iP 2,iP 0,iP 0,.v (.string ⟨#[120]⟩),iP 0,.v (.slice none 0 0)].getD (i_*6+j_) (.v (.bool false)))].getD (i_*6+j_) (.v (.bool false)))]):=
 ak call32 func32 (af [.c Rf,.c Rg,.c Rh,.c Ri,ai 15 ((4:Int)==0) aF,ai 22 ((4:Int)==1) aF,ai 29 ((4:Int)==2) aF,ai 39 ((4:Int)==3) aF,ah 50 ((4:Int)==4) aF,.c abq]) 
def abt : ig 162 [.sl true (1+1) 1 (λi_ j_=>if i_<1 then(λi_ j_=>if i_<0 then(λi_ j_=>([]:List E).getD (i_*1+j_) (.v (.bool false))) i_ j_ else(E.jH (.sl true 1 1 λi_ j_=>[.v (.string ⟨#[120]⟩)].getD (i_*1+j_) (.v (.bool false)))) (i_-0) j_) i_ j_ else(E.jH (.sl true 1 1 λi_ j_=>[.v (.string ⟨#[97]⟩)].getD (i_*1+j_) (.v (.bool false)))) (i_-1) j_),.v (.string ⟨#[97]⟩)] (iP (0+1)):=
 ak call162 func162 (af [.u 12,ah 9 (decide ((0:Int)<2)) aF,iX 0 2 aD,.g (Jr aP:pq prog .eql 9 (.v (.string ⟨#[120]⟩)) (.v (.string ⟨#[97]⟩)) (.bool false)),iC (0+1) aD,ah 9 (decide (((0+1):Int)<2)) aF,iX (0+1) 2 aD,.g (Jr (ado _):pq prog .eql 9 (.v (.string ⟨#[97]⟩)) (.v (.string ⟨#[97]⟩)) (.bool true))]) 
def abu : ig 93 [.agg [iP 2,.v (.slice none 0 0),.v (.slice none 0 0)],.agg [iP 2,iP 0,iP 0,.v (.string ⟨#[97]⟩),iP 0,.v (.slice none 0 0)],.sl true (1+1) 1 (λi_ j_=>if i_<1 then(λi_ j_=>if i_<0 then(λi_ j_=>([]:List E).getD (i_*1+j_) (.v (.bool false))) i_ j_ else(E.jH (.sl true 1 1 λi_ j_=>[.v (.string ⟨#[120]⟩)].getD (i_*1+j_) (.v (.bool false)))) (i_-0) j_) i_ j_ else(E.jH (.sl true 1 1 λi_ j_=>[.v (.string ⟨#[97]⟩)].getD (i_*1+j_) (.v (.bool false)))) (i_-1) j_)] (.iB [.agg [iP 2,.v (.slice none 0 0),.v (.slice none 0 0)],iP (0+1)]):=
 ak call93 func93 (af [ah 15 ((2:Int)==2) aF,.c abt]) 
def abv : ig 162 [.sl true (1+1) 1 (λi_ j_=>if i_<1 then(λi_ j_=>if i_<0 then(λi_ j_=>([]:List E).getD (i_*1+j_) (.v (.bool false))) i_ j_ else(E.jH (.sl true 1 1 λi_ j_=>[.v (.string ⟨#[120]⟩)].getD (i_*1+j_) (.v (.bool false)))) (i_-0) j_) i_ j_ else(E.jH (.sl true 1 1 λi_ j_=>[.v (.string ⟨#[97]⟩)].getD (i_*1+j_) (.v (.bool false)))) (i_-1) j_),.v (.string ⟨#[120]⟩)] (iP 0):=
 ak call162 func162 (af [.u 12,ah 9 (decide ((0:Int)<2)) aF,iX 0 2 aD,.g (Jr (ado _):pq prog .eql 9 (.v (.string ⟨#[120]⟩)) (.v (.string ⟨#[120]⟩)) (.bool true))]) 
def abw : ig 93 [.agg [iP 2,.v (.slice none 0 0),.v (.slice none 0 0)],.agg [iP 2,iP 0,iP 0,.v (.string ⟨#[120]⟩),iP 0,.v (.slice none 0 0)],.sl true (1+1) 1 (λi_ j_=>if i_<1 then(λi_ j_=>if i_<0 then(λi_ j_=>([]:List E).getD (i_*1+j_) (.v (.bool false))) i_ j_ else(E.jH (.sl true 1 1 λi_ j_=>[.v (.string ⟨#[120]⟩)].getD (i_*1+j_) (.v (.bool false)))) (i_-0) j_) i_ j_ else(E.jH (.sl true 1 1 λi_ j_=>[.v (.string ⟨#[97]⟩)].getD (i_*1+j_) (.v (.bool false)))) (i_-1) j_)] (.iB [.agg [iP 2,.v (.slice none 0 0),.v (.slice none 0 0)],iP 0]):=
 ak call93 func93 (af [ah 15 ((2:Int)==2) aF,.c abv]) 
def abx : ig 93 [.agg [iP 2,.v (.slice none 0 0),.v (.slice none 0 0)],.agg [iP 5,iP 0,iP 0,.v (.string ⟨#[]⟩),iP 0,(.sl true 2 6 λi_ j_=>[iP 2,iP 0,iP 0,.v (.string ⟨#[97]⟩),iP 0,.v (.slice none 0 0),iP 2,iP 0,iP 0,.v (.string ⟨#[120]⟩),iP 0,.v (.slice none 0 0)].getD (i_*6+j_) (.v (.bool false)))],.sl true (1+1) 1 (λi_ j_=>if i_<1 then(λi_ j_=>if i_<0 then(λi_ j_=>([]:List E).getD (i_*1+j_) (.v (.bool false))) i_ j_ else(E.jH (.sl true 1 1 λi_ j_=>[.v (.string ⟨#[120]⟩)].getD (i_*1+j_) (.v (.bool false)))) (i_-0) j_) i_ j_ else(E.jH (.sl true 1 1 λi_ j_=>[.v (.string ⟨#[97]⟩)].getD (i_*1+j_) (.v (.bool false)))) (i_-1) j_)] (.iB [.agg [iP 2,.sl true (0+1) 6 (λi_ j_=>if i_<0 then(λi_ j_=>if i_<0 then(λi_ j_=>([]:List E).getD (i_*6+j_) (.v (.bool false))) i_ j_ else(E.jH (.sl true 0 6 λ_ _=>.any)) (i_-0) j_) i_ j_ else(E.jH (.sl true 1 6 λi_ j_=>[iP 5,iP (0+1),iP 0,iP 0,iP 0,iP 0].getD (i_*6+j_) (.v (.bool false)))) (i_-0) j_),.v (.slice none 0 0)],iP ((2+1)-1)]):=
 ak call93 func93 (af [ai 15 ((5:Int)==2) aF,.u 12,ah 32 (decide ((0:Int)<2)) aF,iX 0 2 aD,.c abu,ah 48 ((0:Int)==0) aF,iC (0+1) aD,.k [9,8,6,4,3,2] [8,3,6,4],ah 32 (decide (((0+1):Int)<2)) aF,iX (0+1) 2 aD,.c abw,ai 48 (((0+1):Int)==0) aF,iC ((0+1)+1) aD,.k [9,8,6,4,3,2] [8,3,6,4],ai 32 (decide ((((0+1)+1):Int)<2)) aF,.u 12,.o 55 (.e (.nil _ _ _):aj (.v (.slice none 0 0)) (.sl true 0 6 λ_ _=>.any)),ai 57 (decide ((0:Int)<0)) aF,.bo,.o 74 (.e (.nil _ _ _):aj (.v (.slice none 0 0)) (.sl true 0 6 λ_ _=>.any)),.a (aD:(0+0)*48<=140737488355328),.o 77 (.refl _:aj (.sl true 1 6 λi_ j_=>[iP 5,iP (0+1),iP 0,iP 0,iP 0,iP 0].getD (i_*6+j_) (.v (.bool false))) (.sl true 1 6 λi_ j_=>[iP 5,iP (0+1),iP 0,iP 0,iP 0,iP 0].getD (i_*6+j_) (.v (.bool false)))),
  .bo,.a (aD:(0+1)*48<=140737488355328),iC (2+1) aD,iC ((2+1)-1) aD]) 
def aby : ig 33 [(.sl true 1 6 λi_ j_=>[iP 5,iP 0,iP 0,.v (.string ⟨#[]⟩),iP 0,(.sl true 2 6 λi_ j_=>[iP 2,iP 0,iP 0,.v (.string ⟨#[97]⟩),iP 0,.v (.slice none 0 0),iP 2,iP 0,iP 0,.v (.string ⟨#[120]⟩),iP 0,.v (.slice none 0 0)].getD (i_*6+j_) (.v (.bool false)))].getD (i_*6+j_) (.v (.bool false))),.sl true (1+1) 1 (λi_ j_=>if i_<1 then(λi_ j_=>if i_<0 then(λi_ j_=>([]:List E).getD (i_*1+j_) (.v (.bool false))) i_ j_ else(E.jH (.sl true 1 1 λi_ j_=>[.v (.string ⟨#[120]⟩)].getD (i_*1+j_) (.v (.bool false)))) (i_-0) j_) i_ j_ else(E.jH (.sl true 1 1 λi_ j_=>[.v (.string ⟨#[97]⟩)].getD (i_*1+j_) (.v (.bool false)))) (i_-1) j_)] (.agg [iP 2,.sl true (0+1) 6 (λi_ j_=>if i_<0 then(λi_ j_=>if i_<0 then(λi_ j_=>([]:List E).getD (i_*6+j_) (.v (.bool false))) i_ j_ else(E.jH (.sl true 0 6 λ_ _=>.any)) (i_-0) j_) i_ j_ else(E.jH (.sl true 1 6 λi_ j_=>[iP 5,iP (0+1),iP 0,iP 0,iP 0,iP 0].getD (i_*6+j_) (.v (.bool false)))) (i_-0) j_),.sl true (0+1) 1 (λi_ j_=>if i_<0 then(λi_ j_=>if i_<0 then(λi_ j_=>([]:List E).getD (i_*1+j_) (.v (.bool false))) i_ j_ else(E.jH (.sl true 0 1 λ_ _=>.any)) (i_-0) j_) i_ j_ else(E.jH (.sl true 1 1 λi_ j_=>[iP ((2+1)-1)].getD (i_*1+j_) (.v (.bool false)))) (i_-0) j_)]):=
 ak call33 func33 (af [.u 12,ah 15 (decide ((0:Int)<1)) aF,iX 0 1 aD,.c abx,.bo,.o 31 (.e (.nil _ _ _):aj (.v (.slice none 0 0)) (.sl true 0 1 λ_ _=>.any)),.a (aD:(0+0)*8<=140737488355328),.o 34 (.refl _:aj (.sl true 1 1 λi_ j_=>[iP ((2+1)-1)].getD (i_*1+j_) (.v (.bool false))) (.sl true 1 1 λi_ j_=>[iP ((2+1)-1)].getD (i_*1+j_) (.v (.bool false)))),.bo,.a (aD:(0+1)*8<=140737488355328),iC (0+1) aD,.k [6,5,4,0,1] [5,4],ai 15 (decide (((0+1):Int)<1)) aF]) 
def abz(A:Iv):ig 9 [iP 4,iz [A]] (.agg [iP 2,.sl true (0+1) 6 (λi_ j_=>if i_<0 then(λi_ j_=>if i_<0 then(λi_ j_=>([]:List E).getD (i_*6+j_) (.v (.bool false))) i_ j_ else(E.jH (.sl true 0 6 λ_ _=>.any)) (i_-0) j_) i_ j_ else(E.jH (.sl true 1 6 λi_ j_=>[iP 5,iP (0+1),iP 0,iP 0,iP 0,iP 0].getD (i_*6+j_) (.v (.bool false)))) (i_-0) j_),.sl true (0+1) 1 (λi_ j_=>if i_<0 then(λi_ j_=>if i_<0 then(λi_ j_=>([]:List E).getD (i_*1+j_) (.v (.bool false))) i_ j_ else(E.jH (.sl true 0 1 λ_ _=>.any)) (i_-0) j_) i_ j_ else(E.jH (.sl true 1 1 λi_ j_=>[iP ((2+1)-1)].getD (i_*1+j_) (.v (.bool false)))) (i_-0) j_),iP 1,iz [A]]):=
 ak call9 func9 (af [.c abr,.bo,.a (aD:(0+1)*16<=140737488355328),.bo,.a (aD:(1+1)*16<=140737488355328),.c aby]) 
def Ga(a:Rat):0<=a*a:=by
 by_cases h:0<=a
 .exact bL h h
 .have:=bL (show 0 <= -a by grind) (show 0 <= -a by grind)
  grind
def Sq{u:Rat}(h0:0<=u):∀ j,eQ u j<=oY u j
 | 0=>bS
 |j+1=>by
  have h1:=Sq h0 j;have h2:=Ef u j;have h3:=qS h0 (j+1);have h4:=qS h0 j;have h5:(1:Rat)<=((j+1:Nat):Rat):=by
   have:=dX.2 (aD:1<=j+1);exact this
  have h6:=dc h5 h3;have h7:=dc h1 h0;show eQ u (j+1)<=oY u (j+1);have e:oY u (j+1)=u*oY u j:=by simp only[oY];grind
  rw[e]
  grind
def Hy(u:Rat):∀ n,iT (oY u) n*(1-u)=1-oY u n
 | 0=>by simp only[iT,oY];grind
 |n+1=>by
  have h:=Hy u n;simp only[iT,oY]
  grind
def PT{u:Rat}(h0:0<=u)(h1:u<=1)(N:Nat):EQ u N*(1-u)<=1:=by
 have a:EQ u N<=iT (oY u) (N+1):=AN _ λi _=>Sq h0 i
 have b:=cI a (show 0<=1-u by grind);rw[Hy]at b;have:=Ot h0 (N+1)
 grind
def PU{u:Rat}(h0:0<=u){N:Nat}(hN:1<=N):1+u<=EQ u N:=by
 have:=Dx (f:=eQ u) (λi=>qS h0 i) (aD:2<=N+1);have e:iT (eQ u) 2=1+u:=by
  show 0+1+1*(u/((0+1:Nat):Rat))=1+u;have:((0+1:Nat):Rat)=1:=rfl;rw[this,cF]
  grind
 unfold EQ;rw[e]at this;exact this
def tN(c r:Rat):Prop:=∀ ε:Rat,0<ε->∃ N0:Nat,∀ N,N0<=N->EQ c N<=r+ε
def tM(c r:Rat):Prop:=∀ ε:Rat,0<ε->∃ N0:Nat,∀ N,N0<=N->r<=EQ c N+ε
def tM.lin{u:Rat}(h:0<=u):tM u (1+u):=λε hε=>⟨1,λN hN=>by have:=PU h hN;grind⟩
def tN.Hy{u r:Rat}(h:0<=u)(h1:u<1)(hr:r*(1-u)=1):tN u r:=λε hε=>⟨0,λN _=>by
 have a:=PT h (bH h1) N;have a:EQ u N*(1-u)<=r*(1-u):=by rw[hr];exact a
 have:=cW a (show 0<1-u by grind)
 grind⟩
def tN.mono{a b r:Rat}(h:tN b r)(zV:a<=b):tN a r:=λε hε=>by
 obtain⟨N1,h1⟩:=h (ε/2) aO;obtain⟨N2,h2⟩:=Ce zV (show 0<ε/2 by grind);exact⟨max N1 N2,λN hN=>by have:=h1 N aD;have:=h2 N aD;grind⟩
def tM.mono{a b r:Rat}(h:tM a r)(zV:a<=b):tM b r:=λε hε=>by
 obtain⟨N1,h1⟩:=h (ε/2) aO;obtain⟨N2,h2⟩:=Ce zV (show 0<ε/2 by grind);exact⟨max N1 N2,λN hN=>by have:=h1 N aD;have:=h2 N aD;grind⟩
def YT{r ε:Rat}(hr:0<=r)(hε:0<ε):∃ d:Rat,0<d/\d<=1/\d*(2*r+3)<=ε:=by
 have hp:0<2*r+3:= aO ;by_cases h:ε<=1
 .refine ⟨ε/(2*r+3),?_,?_,?_⟩
  .rw [cF];exact cT hε (dM.2 hp)
  .have e:=cL (a:=ε) (b:=2*r+3) aO ;have h0:0<ε/(2*r+3):=by rw[cF];exact cT hε (dM.2 hp)
   have:=dc (show 1<=2*r+3 by grind) (bH h0)
   grind
  .rw [cL aO];exact bS
 .refine ⟨1/(2*r+3),?_,?_,?_⟩
  .rw [cF];exact cT aF (dM.2 hp)
  .have e:=cL (a:=1) (b:=2*r+3) aO ;have h0:0<1/(2*r+3):=by rw[cF];exact cT aF (dM.2 hp)
   have:=dc (show 1<=2*r+3 by grind) (bH h0)
   grind
  .rw [cL aO];grind
def tN.sq{c r:Rat}(h:tN c r)(hr:0<=r):tN (c+c) (r*r):=λε hε=>by
 obtain⟨d,d0,d1,d2⟩:=YT hr hε;obtain⟨N1,h1⟩:=h d d0;obtain⟨N2,h2⟩:=PW c d0;obtain⟨N3,h3⟩:=Cd c c d0;refine⟨max N1 (max N2 N3),λN hN=>?_⟩;have k1:=h1 N aD;have k2:=h2 N aD;have k3:=h3 N aD;obtain⟨_,a2,a3,_⟩:=mK (EQ (c+c) N-EQ c N*EQ c N);generalize EQ c N=x at *
 generalize EQ (c+c) N=z at *
 have m:=bL (show 0<=r+d-x by grind) (show 0<=r+d+x by grind);have dd:=dc d1 (bH d0)
 grind
def tM.sq{c r:Rat}(h:tM c r)(hr:0<=r):tM (c+c) (r*r):=λε hε=>by
 obtain⟨d,d0,d1,d2⟩:=YT hr hε;obtain⟨N1,h1⟩:=h d d0;obtain⟨N3,h3⟩:=Cd c c d0;refine⟨max N1 N3,λN hN=>?_⟩;have k1:=h1 N aD;have k3:=h3 N aD;obtain⟨_,a2,a3,_⟩:=mK (EQ (c+c) N-EQ c N*EQ c N);generalize EQ c N=x at *
 generalize EQ (c+c) N=z at *
 have sq:=Ga x;have dr:=bL (bH d0) hr;by_cases q:0<=r-d
 .have m:=bL (show 0<=x-(r-d)by grind) (show 0<=x+(r-d)by grind);have dd:=bL (bH d0) (bH d0)
  grind
 .have m:=bL (show 0<=d-r by grind) hr
  grind
def VA(c:Rat){d:Rat}(d0:0<d):∃ N0:Nat,∀ N,N0<=N->1-d<=EQ c N*EQ (-c) N/\EQ c N*EQ (-c) N<=1+d:=by
 obtain⟨N0,h⟩:=Cd c (-c) d0;refine⟨N0,λN hN=>?_⟩;have:=h N hN;rw[show c + -c=0 by grind,PY]at this;obtain⟨_,a2,a3,_⟩:=mK (1-EQ c N*EQ (-c) N);constructor<;>grind
def tM.neg{z:Rat}(h0:0<=z)(h1:z<=1):tM (-z) (1-z):=λε hε=>by
 obtain⟨N0,h⟩:=VA z hε;refine⟨N0,λN hN=>?_⟩;obtain⟨k,_⟩:=h N hN;have g:=PT h0 h1 N;have o:=PX h0 N;generalize EQ z N=x at *
 generalize EQ (-z) N=y at *
 apply dC.1;intro iO;have m:=cI o (show 0<=(1-z)-y-ε by grind);have m2:=cI o (bH hε);have m3:(1-z-y-ε)*1>0:= aO 
 grind
def tN.neg{y s:Rat}(h0:0<=y)(hs:s*(1+y)=1):tN (-y) s:=λε hε=>by
 obtain⟨N0,h⟩:=VA y hε;refine⟨max N0 1,λN hN=>?_⟩;obtain⟨_,k⟩:=h N aD;have o:=PU h0 (N:=N) aD;generalize EQ y N=x at *
 generalize EQ (-y) N=w at *
 apply dC.1;intro iO;have s0:0<=s:=by
  apply dC.1;intro q;have:=anC q (show 0<1+y by grind)
  grind
 have m:=cI o (show 0<=w by grind);have m2:=anC iO (show 0<1+y by grind);have m3:=bL (bH hε) h0
 grind
def alO{x t m M:Rat}(ht:0<t)(h1:m<=x)(h2:x<=M)(h3:m<=x-t*(M*M))(h4:m<=x-t*(m*m)):0<1+x*t/\m*(1+x*t)<=x:=by
 by_cases hx:0<=x
 .have y0:=bL hx (bH ht);refine⟨aO,?_⟩;have k1:=bL (show 0<=M-x by grind) (show 0<=M+x by grind);have k2:=bL (bH ht) k1;have k3:m<=x-t*(x*x):= aO ;have k4:=cI k3 (show 0<=1+x*t by grind);have k5:=bL hx (Ga (x*t))
  grind
 .
  have k1:=dc h4 (bH ht);have k2:=Ga (t*m+1/2);have hy:-(1/4)<=x*t:= aO ;have hP:0<1+x*t:= aO ;refine⟨hP,?_⟩;apply dC.1;intro iO;have p1:=Rat.mul_lt_mul_of_pos_left iO ht;have p2:0<t*(m*(1+x*t)+x)+(1+x*t):= aO ;have p3:=cT (show 0<m*(1+x*t)-x by grind) p2;have p4:=dc h4 (Ga (1+x*t));have p5:=bL (show 0 <= -x by grind) (Ga (x*t))
  grind
def agf{x t m M r:Rat}{X:Iv}(ht:0<t)(h1:m<=x)(h2:x<=M)(h3:m<=x-t*(M*M))(h4:m<=x-t*(m*m))(hr:r*((1+x*t)*(1+x*t))=1){k:Nat}
 (hm:∀ N,k<=N->X.jB (EQ (-(2*m)*t) N)) (hM:∀ N,k<=N->X.jB (EQ (-(2*M)*t) N)):X.jB r:=by
 obtain⟨q0,q1⟩:=alO ht h1 h2 h3 h4;obtain⟨s,hs⟩:∃ s,s=1/(1+x*t):=⟨_,rfl⟩
 have qL:s*(1+x*t)=1:=by rw[hs];exact cL aO 
 have s0:0<s:=by rw[hs,cF];exact cT aF (dM.2 q0)
 have US:r=s*s:=by
  have e:r*((1+x*t)*(1+x*t))=(s*s)*((1+x*t)*(1+x*t)):=by rw[hr];grind
  have:=congrArg (· * (s*s)) e
  grind
 have c1:=cI h2 (bH ht);have c2:m<=x*s:=by
  have:=cI q1 (bH s0);rwa[dW,fp (1+x*t) s,qL,Rat.mul_one]at this
 have c3:=cI c2 (bH ht);have lo:tN (-(2*M)*t) r:=by
  rw[US];by_cases hx:0<=x
  .have y0:=bL hx (bH ht);exact((tN.neg y0 qL).sq (bH s0)).mono aO 
  .have y0:=bL (show 0 <= -x by grind) (bH ht);exact((tN.Hy (u:=-(x*t)) aO aO aO).sq (bH s0)).mono aO 
 have hi:tM (-(2*m)*t) r:=by
  rw[US];by_cases hx:0<=x
  .have y0:=bL hx (bH ht);have y1:=bL y0 (bH s0);have:=(tM.neg (z:=1-s) aO aO)
   rw[show 1-(1-s)=s by grind]at this;exact(this.sq (bH s0)).mono aO 
  .have y0:=bL (show 0 <= -x by grind) (bH ht);have y1:=bL y0 (bH s0);have:=(tM.lin (u:=s-1) aO)
   rw[show 1+(s-1)=s by grind]at this;exact(this.sq (bH s0)).mono aO 
 cases ha:X.all with
 |true=>exact .inl ha
 |false=>
  refine .inr ⟨?_,?_⟩
  .apply dC.1;intro iO;obtain⟨N0,h⟩:=lo ((X.lo.q-r)/2) aO;have a:=h (max N0 k) aD;have b:=((hM (max N0 k) aD).kn ha).1
   grind
  .apply dC.1;intro iO;obtain⟨N0,h⟩:=hi ((r-X.hi.q)/2) aO;have a:=h (max N0 k) aD;have b:=((hm (max N0 k) aD).kn ha).2
   grind
def P5(v t:Rat)(N:Nat):SQ 1 (λ_ _=>v) t N 0 0=EQ (v*t) N:=by
 rw[Cg];have e:∀ j,MP 1 (λ_ _=>v) j 0 0=oY v j:=by
  intro j
  induction j with
  |zero=>rfl
  |succ j ih=>
   show iT (λq=>MP 1 (λ_ _=>v) j 0 q*v) 1=oY v (j+1);simp only[iT,oY];rw[ih];grind
 exact pJ _ λj _=>by rw[e,fp v t,Hm]
def adf{A B:Iv}{lo hi r:Rat}(hA:nI (EQ lo) A)(hB:nI (EQ hi) B)(h1:lo<=r)(h2:r<=hi):nI (EQ r) (wB A B):=by
 unfold wB;cases aa:A.all with
 |true=>exact nI.all rfl
 |false=>
  cases ba:B.all with
  |true=>exact nI.all rfl
  |false=>
   have zV:A.lo.q<=B.hi.q:=VR hA hB (λε hε=>Ce (bX h1 h2) hε) aa ba;intro ε hε;obtain⟨N1,k1⟩:=hA (ε/2) aO;obtain⟨N2,k2⟩:=hB (ε/2) aO;obtain⟨N3,k3⟩:=Ce h1 (show 0<ε/2 by grind);obtain⟨N4,k4⟩:=Ce h2 (show 0<ε/2 by grind);refine⟨max (max N1 N2) (max N3 N4),λN hN=>?_⟩;obtain⟨u,hu,du⟩:=k1 N aD;obtain⟨v,hv,dv⟩:=k2 N aD;have e3:=k3 N aD;have e4:=k4 N aD;obtain⟨u1,_⟩:=hu.kn aa;obtain⟨_,v2⟩:=hv.kn ba;obtain⟨_,a2,a3,_⟩:=mK (EQ lo N-u);obtain⟨_,b2,b3,_⟩:=mK (EQ hi N-v);by_cases c1:EQ r N<A.lo.q
   .exact ⟨A.lo.q,.inr ⟨bS,zV⟩,yu aO aO⟩
   .by_cases c2:B.hi.q<EQ r N
    .exact ⟨B.hi.q,.inr ⟨zV,bS⟩,yu aO aO⟩
    .exact ⟨EQ r N,.inr ⟨dC.1 c1,dC.1 c2⟩,yu aO aO⟩
def nI.ag4{f:Nat->Rat}{P E:Iv}(vP:P.iu)(vE:E.iu)(hP:P.jB 1)(h:nI f E){p:Nat}(hp:1<=p)(iq:p<=4096):nI f (iI P E p):=λε hε=>by
 obtain⟨N0,k⟩:=h ε hε;refine⟨N0,λN hN=>?_⟩;obtain⟨r,hr,hd⟩:=k N hN;have:=sZ vP vE hp iq hP hr;rw[dY]at this;exact⟨r,this,hd⟩
def Kl(ik:List lO)(xs:List Iv)(p k:Nat):∀ m,∀ i,i<xs.length+k->(iS ik xs p (k+m)).getD i il=(iS ik xs p k).getD i il
 | 0,_,_=>rfl
 |m+1,i,hi=>by
  rw[<-Kl ik xs p k m i hi];show(iS ik xs p (k+m)++[_]).getD i il=_;rw[bu,eW (by rw[B6];omega),<-bu]
def Tw{l r:List Iv}{i:Nat}(h:i<l.length):(l++r).getD i il=l.getD i il:=by rw[bu,eW h,<-bu]
def Ty{l:List Iv}{y:Iv}{n:Nat}(h:l.length=n):(l++[y]).getD n il=y:=by subst h;simp[bu]
def GZ(t:mB)(l:List Iv)(i p k:Nat):∀ m,∀ q,q<t.iW+k->(jW t l i p (k+m)).getD q il=(jW t l i p k).getD q il
 | 0,_,_=>rfl
 |m+1,q,hq=>by
  rw[<-GZ t l i p k m q hq];show(jW t l i p (k+m)++[_]).getD q il=_;exact Tw (by rw[D0];omega)
def K4{t:mB}{l:List Iv}{i p j:Nat}(hj:j<t.ik.length)(ha:(t.ik.getD j iF).a<t.iW+j)(hb:(t.ik.getD j iF).b<t.iW+j):
 (jW t l i p t.ik.length).getD (t.iW+j) il=ru (t.ik.getD j iF) (l.getD (t.iW+j) il) l (jW t l i p t.ik.length) p:=by
 obtain⟨m,e⟩:∃ m,t.ik.length=(j+1)+m:=⟨t.ik.length-(j+1),aD⟩
 rw[e,GZ t l i p (j+1) m (t.iW+j) aD];show(jW t l i p j++[ru (t.ik.getD j iF) (l.getD (t.iW+j) il) l (jW t l i p j) p]).getD (t.iW+j) il=_;rw[Ty (D0 _ _ _ _ _)];have q:∀ k,k<t.iW+j->(jW t l i p j).getD k il=(jW t l i p (j+1+m)).getD k il:=λk hk=>by
  rw[(aD:j+1+m=j+(1+m))];exact(GZ t l i p j (1+m) k hk).symm
 unfold ru;rw[q _ ha,q _ hb]
def Zz{n i:Nat}:∀ {k q:Nat},q<k->(ni n i k).getD q il=if q=i then iN 1 else iN 0
 | 0,_,h=>absurd h (bO _)
 |k+1,q,h=>by
  unfold ni;by_cases e:q=k
  .subst e;exact Ty (Gh _ _ _)
  .rw [Tw (by rw[Gh];omega)];exact Zz aD 
def K5{t:mB}{l:List Iv}{i p q:Nat}(hq:q<t.iW):(jW t l i p t.ik.length).getD q il=if q=i then iN 1 else iN 0:=by
 have:=GZ t l i p 0 t.ik.length q aD;rw[b6]at this;rw[this];exact Zz hq
def Vt{x y:Iv}(h:pN x y=true){r:Rat}(hr:x.jB r)(ya:y.all=false):y.lo.q<=r/\r<=y.hi.q:=by
 unfold pN at h;rw[ya,fN,bY,bY,cH,cH,qx,qx]at h;obtain⟨h1,h2,h3⟩:=h;obtain⟨a,b⟩:=hr.kn (by simpa using h1);exact⟨bX h2 a,bX b h3⟩
def alN{X B:Iv}{H:Dy}(vX:X.iu)(vB:B.iu)(aB:B.all=false)(vH:H.iu)(hh:0<=H.q){p:Nat}(iD:8<=p)(iq:p<=512)(hc:qK mM [X] H [B] p=true){x:Rat}(hx:X.jB x):
 B.lo.q<=x/\x<=B.hi.q/\∀ b,B.jB b->B.lo.q<=x-H.q*(b*b):=by
 unfold qK at hc;rw[bY,bY]at hc;obtain⟨h1,h2,h3⟩:=hc;have afd:pN X B=true:=ct.1 h2 0 aJ;obtain⟨b1,b2⟩:=Vt afd hx aB;refine⟨b1,b2,λb hb=>?_⟩;have hP:=JA vB 2 (aD:1<=p) (aD:p<=4096);unfold lF at h1 h3;rw[ahu]at h1 h3;split at h1
 .cases h1
 .rename_i q1;rw[bl q1]at h3;split at h1
  .cases h1
  .rename_i q2;rw[bl q2]at h3;have hy:xK [X] [nL (nX B 2 p)] H p=[jL X (iI (mi H) (nL (nX B 2 p)) p) p]:=rfl;rw[hy]at q2 h3;have mq:pN (jL X (iI (mi H) (nL (nX B 2 p)) p) p) B=true:=ct.1 h3 0 aJ;have vs:=Pr vH hh;have hs:(mi H).jB H.q:=.inr ⟨by show iQ.q<=H.q;rw[qy];exact hh,bS⟩;have c1:=Je (Oz vB (n:=2) (p:=p) aD aD hb);have c2:=sZ vs (sE hP) (p:=p) aD aD hs c1;have c3:=zF vX (lX (mi H) (nL (nX B 2 p)) (p:=p) aD aD) (p:=p) aD aD hx c2;obtain⟨d1,_⟩:=Vt mq c3 aB;have e:pI b 2=b*b:=by simp only[pI];grind
   rw[e]at d1
   grind
def alQ{t:mB}{B:Iv}{p q:Nat}(h:q<1):(iS t.ik [B] p t.ik.length).getD q il=B:=by
 have:=Kl t.ik [B] p 0 t.ik.length q (by simpa using h);rw[b6]at this;rw[this];obtain rfl:q=0:= aD ;rfl
def ahv{B:Iv}(vB:B.iu){p:Nat}(iD:8<=p)(iq:p<=512){b:Rat}(hb:B.jB b):(mT mM.tape [B] p 0 0).jB (-(2*b)):=by
 have q1:1<=p:= aD ;have q2:p<=4096:= aD ;have hl:∀ l:List Iv,l=iS mM.tape.ik [B] p mM.tape.ik.length->(jW mM.tape l 0 p mM.tape.ik.length).getD (1+1) il=(mT mM.tape [B] p 0 0):=λl hl=>by rw[hl];rfl
 obtain⟨l,el⟩:∃ l,l=iS mM.tape.ik [B] p mM.tape.ik.length:=⟨_,rfl⟩
 rw[<-hl l el];have hz:∀ i,([B].getD i il).iu:=λi=>by
  rcases i with _|i
  .exact vB
  .exact mA
 have vl:nP l:=by rw[el];exact zA mM.tape.ik hz q1 q2 _
 have hc:=D1 mM.tape vl 0 q1 q2 mM.tape.ik.length;have c1:=K4 (t:=mM.tape) (l:=l) (i:=0) (p:=p) (j:=1) aF aF aF ;have c0:=K4 (t:=mM.tape) (l:=l) (i:=0) (p:=p) (j:=0) aF aF aF ;have ci:=K5 (t:=mM.tape) (l:=l) (i:=0) (p:=p) (q:=0) aF;rw[bn rfl]at ci;have l0:l.getD 0 il=B:=by rw[el];exact alQ aF 
 generalize hC:jW mM.tape l 0 p mM.tape.ik.length=C at *
 have k0:(C.getD (1+0) il).jB (2*b):=by
  rw[show C.getD (1+0) il=_ from c0];unfold ru;split
  .exact .inl rfl
  .have e:pZ (mM.tape.ik.getD 0 iF) (l.getD (1+0) il) (l.getD 0 il) (l.getD 0 il) (C.getD 0 il) (C.getD 0 il) p=iI (iI (iN 2) (nX (l.getD 0 il) 1 p) p) (C.getD 0 il) p:=rfl;show(pZ (mM.tape.ik.getD 0 iF) (l.getD (1+0) il) (l.getD 0 il) (l.getD 0 il) (C.getD 0 il) (C.getD 0 il) p).jB _;rw[e,l0,ci];have p1:=Oz vB (n:=1) (p:=p) aD aD hb;have p2:=sZ (Jj (n:=2) aF) (JA vB 1 q1 q2) q1 q2 (tI 2) p1;have p3:=sZ (lX (iN 2) (nX B 1 p) q1 q2) NY q1 q2 p2 (tI 1);have e2:((2:Int):Rat)*pI b 1*((1:Int):Rat)=2*b:=by
    have e3:pI b 1=b:=by simp only[pI];grind
    have e4:((2:Int):Rat)=2:=rfl;have e5:((1:Int):Rat)=1:=rfl;rw[e3,e4,e5];grind
   rw[e2]at p3;exact p3
 rw[show C.getD (1+1) il=_ from c1];unfold ru;split
 .exact .inl rfl
 .show (nL (C.getD 1 il)).jB _;exact Je k0
def VL{s:kG}{b:List Iv}{p:Nat}(h1:s.jo=1)(h2:s.tape.iL.length=1):pe (q8 s b p) 0 0=mT s.tape (b++s.params) p 0 0:=by
 unfold pe q8;rw[I3 aD,s7 aD]
def adN{X B:Iv}{H:Dy}(vX:X.iu)(vB:B.iu)(aB:B.all=false)(vH:H.iu)(hh:0<H.q){p k:Nat}(iD:8<=p)(iq:p<=512)(hk:k<=16)(hc:qK mM [X] H [B] p=true)
 {x r:Rat} (hx:X.jB x) (hr:r*((1+x*H.q)*(1+x*H.q))=1) {h:Iv} (vh:h.iu) (ha:h.all=false) (ht:h.jB H.q) {M:List (List Iv)} (hM:tp (q8 mM [B] p) h k p=some M):(pe M 0 0).jB r:=by
 obtain⟨t1,t2,t3⟩:=alN vX vB aB vH (bH hh) iD iq hc hx;have jk:B.jB B.lo.q:=vB.wG;have Ip:B.jB B.hi.q:=vB.vo;have ga:=Np Pw (J2 vB aB) (aD:1<=p) (aD:p<=4096);have key:∀ b,B.jB b->∀ N,k<=N->(pe M 0 0).jB (EQ (-(2*b)*H.q) N):=λb hb N hN=>by
  have:=SY (n:=1) (M:=λ_ _=>-(2*b)) (t:=H.q) ga vh (aD:1<=p) (aD:p<=4096) (λi j hi hj=>by
   obtain rfl:i=0:= aD ;obtain rfl:j=0:= aD ;rw[VL rfl rfl];exact ahv vB iD iq hb) ht ha (aD:k<1000) hM N hN 0 0 aF aF 
  rwa[P5]at this
 exact agf hh t1 t2 (t3 _ Ip) (t3 _ jk) hr (key _ jk) (key _ Ip)
noncomputable def sK(A:Iv):kG:=⟨⟨2,[⟨5,1,0,0,0,0⟩],[2]⟩,1,[A]⟩
def Zc{A:Iv}(vA:A.iu)(aA:A.all=false):mO (sK A):=by
 refine⟨⟨by show 2<=8;decide,by show 1<=200;decide,by show 1<=200;decide,λi hi=>?_,λi hi=>?_⟩,by show 1<=1;decide,by show 1<=4;decide,rfl,rfl,by show 1<=4;decide,λi hi=>?_⟩
 .have hi:i<1:=hi;obtain rfl:i=0:= aD ;exact⟨.inr (show 3<=5 by decide),show 5<=13 by decide,show(if(5:Nat)=1 then(1:Nat)=0 else 1<2)by decide,show(if(3:Nat)<=5/\(5:Nat)<=6 then(0:Nat)<2 else(0:Nat)=0)by decide,rfl,⟨rfl,rfl⟩,.inl (show 5<=8 by decide)⟩
 .have hi:i<1:=hi;obtain rfl:i=0:= aD ;show 2<3;decide
 .have hi:i<1:=hi;obtain rfl:i=0:= aD ;exact⟨vA,aA⟩
def ag7{A B:Iv}(vA:A.iu)(vB:B.iu)(aB:B.all=false){p:Nat}(iD:8<=p)(iq:p<=512){a:Rat}(ha:A.jB a):(mT (sK A).tape ([B]++[A]) p 0 0).jB a:=by
 have q1:1<=p:= aD ;have q2:p<=4096:= aD ;obtain⟨t,et⟩:∃ t:mB,t=(sK A).tape:=⟨_,rfl⟩
 have t2:t.iW=2:=by rw[et];rfl
 have t1:t.ik.length=1:=by rw[et];rfl
 have o0:t.ik.getD 0 iF=⟨5,1,0,0,0,0⟩:=by rw[et];rfl
 obtain⟨l,el⟩:∃ l,l=iS t.ik ([B]++[A]) p t.ik.length:=⟨_,rfl⟩
 have hl:(jW t l 0 p t.ik.length).getD (t.iW+0) il=mT (sK A).tape ([B]++[A]) p 0 0:=by rw[el,et];rfl
 rw[<-hl];have vl:nP l:=by
  rw[el];exact zA t.ik (λi=>by
   rcases i with _|_|i
   .exact vB
   .exact vA
   .exact mA) q1 q2 _
 have c0:=K4 (t:=t) (l:=l) (i:=0) (p:=p) (j:=0) aD (by rw[o0];show 1<t.iW+0;omega) (by rw[o0];show 0<t.iW+0;omega);have ci:=K5 (t:=t) (l:=l) (i:=0) (p:=p) (q:=0) aD;have cj:=K5 (t:=t) (l:=l) (i:=0) (p:=p) (q:=1) aD;rw[bn rfl]at ci;rw[bl aF]at cj;have l0:l.getD 0 il=B:=by
  have:=Kl t.ik ([B]++[A]) p 0 t.ik.length 0 (show 0<2+0 by decide);rw[b6]at this;rw[el,this];rfl
 have l1:l.getD 1 il=A:=by
  have:=Kl t.ik ([B]++[A]) p 0 t.ik.length 1 (show 1<2+0 by decide);rw[b6]at this;rw[el,this];rfl
 rw[c0];generalize jW t l 0 p t.ik.length=C at *
 unfold ru;split
 .exact .inl rfl
 .rw [o0];show(pZ ⟨5,1,0,0,0,0⟩ (l.getD (t.iW+0) il) (l.getD 1 il) (l.getD 0 il) (C.getD 1 il) (C.getD 0 il) p).jB _;have e:pZ ⟨5,1,0,0,0,0⟩ (l.getD (t.iW+0) il) (l.getD 1 il) (l.getD 0 il) (C.getD 1 il) (C.getD 0 il) p=jL (iI (C.getD 1 il) (l.getD 0 il) p) (iI (l.getD 1 il) (C.getD 0 il) p) p:=rfl;rw[e,l0,l1,ci,cj];have h1:=sZ Jk vB q1 q2 (tI 0) vB.wG;have h2:=sZ vA NY q1 q2 ha (tI 1);have h3:=zF (lX (iN 0) B q1 q2) (lX A (iN 1) q1 q2) q1 q2 h1 h2;have e2:((0:Int):Rat)*B.lo.q+a*((1:Int):Rat)=a:=by
   have e4:((0:Int):Rat)=0:=rfl;have e5:((1:Int):Rat)=1:=rfl;rw[e4,e5];grind
  rwa[e2]at h3
def adM{A B:Iv}(vA:A.iu)(aA:A.all=false)(vB:B.iu)(aB:B.all=false){p k:Nat}(iD:8<=p)(iq:p<=512)(hk:k<=16)
 {a t:Rat} (kC:A.jB a) {h:Iv} (vh:h.iu) (ha:h.all=false) (ht:h.jB t) {M:List (List Iv)} (hM:tp (q8 (sK A) [B] p) h k p=some M):∀ N,k<=N->(pe M 0 0).jB (EQ (a*t) N):=λN hN=>by
 have ga:=Np (Zc vA aA) (J2 vB aB) (aD:1<=p) (aD:p<=4096);have:=SY (n:=1) (M:=λ_ _=>a) (t:=t) ga vh (aD:1<=p) (aD:p<=4096) (λi j hi hj=>by
  obtain rfl:i=0:= aD ;obtain rfl:j=0:= aD ;rw[VL rfl rfl];exact ag7 vA vB aB iD iq kC) ht ha (aD:k<1000) hM N hN 0 0 aF aF 
 rwa[P5]at this
def F6{n d:Int}(hr:jN n d=true){p:Nat}(hp:1<=p)(iq:p<=4096):(lu n d p).jB ((n:Rat)/(d:Rat)):=by
 obtain⟨A,B⟩:=G9 (a:=jY n) (b:=jY d) (IZ (by have:=pn hr;omega)) hp iq;rw[yc,yc]at A B;unfold lu;rw[bn hr];unfold mU;split
 .exact .inl rfl
 .rename_i h;have e1:mS (jY n) (jY d) p false=0:=b9 λq=>h (.inl q)
  have e2:mS (jY n) (jY d) p true=0:=b9 λq=>h (.inr q)
  exact .inr ⟨(A.1 e1).2,(B.1 e2).2⟩
def xB(x:Iv)(N:Int)(D:Nat):Bool:=x.all||(decide (0<=mz N D x.lo)&&decide (mz N D x.hi<=0))
def ZS(e:Int):P2 e*((2^(-e).toNat:Nat):Rat)=((2^e.toNat:Nat):Rat):=by
 rw[<-uN,<-uN,<-tO];congr 1;omega
def abK(x y:Nat):(0<=kD x y↔y<=x)/\(kD x y<=0↔x<=y):=by
 unfold kD;split
 .omega
 .split<;>omega
def aji{a D:Nat}(hD:1<=D)(d:Dy):(0<=oE a D d↔(d.m:Rat)*P2 d.e<=(a:Rat)/(D:Rat))/\(oE a D d<=0↔(a:Rat)/(D:Rat)<=(d.m:Rat)*P2 d.e):=by
 have H8:(0:Rat)<(D:Rat):=cV.2 hD;have TR:(0:Rat)<((2^(-d.e).toNat:Nat):Rat):=cV.2 (bA aF);have hc:(a:Rat)/(D:Rat)*(D:Rat)=(a:Rat):=cL aO;have hP:=ZS d.e;have c:=abK (a*2^(-d.e).toNat) (d.m*D*2^d.e.toNat);have mul_iff:∀ x y:Rat,x<=y↔x*((D:Rat)*((2^(-d.e).toNat:Nat):Rat))<=y*((D:Rat)*((2^(-d.e).toNat:Nat):Rat)):=λx y=>
  ⟨λh=>cI h (bH (cT H8 TR)),λh=>cW h (cT H8 TR)⟩
 have l:(d.m:Rat)*P2 d.e*((D:Rat)*((2^(-d.e).toNat:Nat):Rat))=((d.m*D*2^d.e.toNat:Nat):Rat):=by
  rw[cX,cX,<-hP];grind
 have r:(a:Rat)/(D:Rat)*((D:Rat)*((2^(-d.e).toNat:Nat):Rat))=((a*2^(-d.e).toNat:Nat):Rat):=by
  rw[cX,<-dW,hc]
 unfold oE;rw[mul_iff ((d.m:Rat)*P2 d.e),mul_iff ((a:Rat)/(D:Rat)),l,r,dX,dX];exact c
def ajh(a D:Nat)(d:Dy):oE a D d = -1\/oE a D d=0\/oE a D d=1:=by
 unfold oE kD;split
 .exact .inl rfl
 .split
  .exact .inr (.inr rfl)
  .exact .inr (.inl rfl)
def ag8(N:Int):((N.natAbs:Nat):Rat)=if N<0 then -(N:Rat)else(N:Rat):=by
 split
 .have:N = -(N.natAbs:Int):= aD ;have e:(N:Rat)=((-(N.natAbs:Int):Int):Rat):=by rw[<-this]
  rw[e,fm,dw,fo]
 .have:N=(N.natAbs:Int):= aD ;have e:(N:Rat)=(((N.natAbs:Int):Int):Rat):=by rw[<-this]
  rw[e,dw]
def XT{N:Int}{D:Nat}(hD:1<=D)(d:Dy):(0<=mz N D d↔d.q<=(N:Rat)/(D:Rat))/\(mz N D d<=0↔(N:Rat)/(D:Rat)<=d.q):=by
 have H8:(0:Rat)<(D:Rat):=cV.2 hD;have hi:(0:Rat)<(D:Rat)⁻¹:=dM.2 H8;obtain⟨m1,m2⟩:=aji (a:=N.natAbs) hD d;have mc:=ajh N.natAbs D d;rw[ag8]at m1 m2;obtain⟨s1,s2⟩:=ri d;have hq:=pU d;have sc:=B2 d;have n1:N<0->(N:Rat)<0:=λh=>Rat.intCast_neg_iff.2 h
 have n2:0<N->(0:Rat)<(N:Rat):=λh=>anu.2 h
 have n3:N=0->(N:Rat)=0:=λh=>by rw[h];rfl
 have hm:d.m=0->d.q=0:=λh=>by rw[pU,h];simp
 rw[cF]at m1 m2 ⊢;have e1:(0:Rat)<(N:Rat)->0<(N:Rat)*(D:Rat)⁻¹:=λh=>cT h hi
 have e2:(N:Rat)<0->(N:Rat)*(D:Rat)⁻¹<0:=λh=>by have:=cT (show 0 < -(N:Rat)by grind) hi;grind
 have e3:(N:Rat)=0->(N:Rat)*(D:Rat)⁻¹=0:=λh=>by rw[h,gH]
 unfold mz tK;generalize hR:(N:Rat)*(D:Rat)⁻¹=R at *
 rcases Int.lt_trichotomy N 0 with h|h|h
 .have sW:=e2 (n1 h);rw[bl (aD:¬0<N),bn h];rw[bn h,gG,hR]at m1 m2;rcases sc with⟨a1,a2⟩|⟨a1,a2,a3⟩|⟨a1,a2,a3⟩
  .have:=hm a1;rw[a2];simp;grind
  .rw [a2]at hq;simp only[bN]at hq;rw[a3];simp only[Int.lt_irrefl,bF];rw[bl aF];rcases mc with c|c|c<;>rw[c]at m1 m2 ⊢ <;> simp at m1 m2 ⊢ <;> grind
  .have:=s1.1 aD ;rw[a3];simp;grind
 .have sW:=e3 (n3 h);rw[bl (aD:¬0<N),bl (aD:¬N<0)];rcases sc with⟨a1,a2⟩|⟨a1,a2,a3⟩|⟨a1,a2,a3⟩
  .have:=hm a1;rw[a2];simp;grind
  .have:=s2.1 aD ;rw[a3];simp;grind
  .have:=s1.1 aD ;rw[a3];simp;grind
 .have sW:=e1 (n2 h);rw[bn h];rw[bl aD,hR]at m1 m2;rcases sc with⟨a1,a2⟩|⟨a1,a2,a3⟩|⟨a1,a2,a3⟩
  .have:=hm a1;rw[a2];simp;grind
  .have:=s2.1 aD ;rw[a3];simp;grind
  .rw [a2]at hq;simp only[bZ,bF]at hq;rw[a3];simp only[Int.lt_irrefl,bF];rw[bl aF];rcases mc with c|c|c<;>rw[c]at m1 m2 ⊢ <;> simp at m1 m2 ⊢ <;> grind
def aeX{x:Iv}{N:Int}{D:Nat}(hD:1<=D)(h:x.jB ((N:Rat)/(D:Rat))):xB x N D=true:=by
 unfold xB;rcases h with h|⟨h1,h2⟩
 .rw [h];rfl
 .rw [bq ((XT hD x.lo).1.2 h1),bq ((XT hD x.hi).2.2 h2)];simp
def V6(m:List (List Iv))(x:Nat):PS:=⟨61,true,[(3,.e (iP x)),(0,.e (iU m))],[]⟩
def V5(m:List (List Iv))(x:Nat)(y:Nat):PS:=⟨61,true,[(4,.e (iP y)),(3,.e (iP x)),(0,.e (iU m))],[]⟩
def adL(s:kG)(x:List Iv)(h:Iv)(k p:Nat)(hJ:ig 39 [lI s,iz x,iP p] (.iB [.v (.slice none 0 0),iP 11])):ig 11 [lI s,iz x,ix h,iP k,iP p] (.iB [.v (.slice none 0 0),iP 11]):=
 ak call11 func11 (af [ag [lI s,iz x,iP p] hJ,ah 22 ((11:Int) != 0) aF]) 
def S9(s:kG)(x:List Iv)(h:Iv)(k p:Nat)(c:Int)(m X:List (List Iv))(hJ:ig 39 [lI s,iz x,iP p] (.iB [iU m,iP 0]))(hX:ig 21 [iU m,ix h,iP (k:Int),iP (p:Int)] (.iB [iU X,iP c])):ig 11 [lI s,iz x,ix h,iP k,iP p] (.iB [iU X,iP c]):=
 ak call11 func11 (af [ag [lI s,iz x,iP p] hJ,ai 22 ((0:Int) != 0) aF,ag [iU m,ix h,iP k,iP p] hX]) 
def ql{f:FuncId}{l:List E}{r r':E}(h:ig f l r)(hr:E.le r r'):ig f l r':=PC.le h (.refl _) hr
def Wd(c:Int):E.le (.iB [.v (.slice none 0 0),iP c]) (.iB [iU [],iP c]):=.iB (.cons (.nil _ _ _) (.cons (.refl _) .nil))
def Ta(s:kG)(x:List Iv)(h:Iv)(k p:Nat)(hs:mO s)(hb:kU s.jo x)(hr:uP s.tape)(vh:h.iu)(ha:h.all=false)(lW:1<=k)(hk:k<=16)(iD:8<=p)(iq:p<=512):
 ∃ M f,ig 11 [lI s,iz x,ix h,iP (k:Int),iP (p:Int)] (.iB [iU M,iP f])/\(f=0->tp (q8 s x p) h k p=some M/\ke M s.jo s.jo):=by
 cases hn:Fb s x p with
 |true=>exact⟨[],11,ql (adL s x h k p (ad0 s x p hs hb hr iD iq hn)) (Wd _),λq=>absurd q aF⟩
 |false=>
  have ga:=Np hs hb (aD:1<=p) (aD:p<=4096);have hJ:=ad3 s x p hs hb hr iD iq hn;cases hx:tp (q8 s x p) h k p with
  |some X=>exact⟨X,0,S9 s x h k p 0 _ X hJ ((LI (q8 s x p) h s.jo k p ga vh ha lW hk iD iq).1 X hx),λ_=>⟨rfl,SZ ga vh aD iD iq hx⟩⟩
  |none=>exact⟨[],15,S9 s x h k p 15 _ [] hJ (ql ((LI (q8 s x p) h s.jo k p ga vh ha lW hk iD iq).2 hx) (Wd _)),λq=>absurd q aF⟩
def agF(m:List (List Iv))(n:Nat)(hm:ke m n n):ig 18 [iU m] (bP true):=by
 have m1:=hm.jm;have m2:=hm.n1;have m8:=hm.n8;have m3:=hm.mF (aD:0<n);exact ak call18 func18 (af [tF 7 ((m.length:Int)<1) aD,tF 11 (8<(m.length:Int)) aD,iX 0 (m.length) aD,tF 18 (((m.getD 0 []).length:Int)<1) aD,iX 0 (m.length) aD,tF 25 (8<((m.getD 0 []).length:Int)) aD,.s (Sp.jP (V6 m) 0 m.length aD (λx hx lp=>by
    have yP:=hm.mF (aD:x<n);exact iM (af [tT 30 ((x:Int)<m.length) aD,iX (x:Int) (m.length) aD,iX 0 (m.length) aD,ai 42 (((m.getD x []).length:Int) != ((m.getD 0 []).length:Int)) (sD aD),.s (Sp.jP (V5 m x) 0 ((m.getD x []).length) aD (λy hy EH=>by
    exact iM (af [iX (x:Int) (m.length) aD,tT 49 ((y:Int)<((m.getD x []).length:Int)) aD,iX (x:Int) (m.length) aD,iX (y:Int) ((m.getD x []).length) aD,.c (XO ((m.getD x []).getD y il) (hm.qP aD aD)),iC ((y:Int)+1) aD]) aG)
  (λhy=>by
    exact iM (af [iX (x:Int) (m.length) aD,tF 49 (((m.getD x []).length:Int)<((m.getD x []).length:Int)) aD]) aG) aK:jO 9 Tryz.f18 (V5 m x 0) (.exit 2) ⟨61,true,[(3,.e (iP x)),(0,.e (iU m))],[]⟩) .nil,
     iC ((x:Int)+1) aD]) aG)
  (λhx=>by
    exact iM (af [tF 30 ((m.length:Int)<m.length) aD]) aG) aK:jO 4 Tryz.f18 (V6 m 0) (.exit 0) ⟨61,true,[],[]⟩) .nil]) 
def agD(T:Nat)(h1:0<T)(h2:T<=1073741824):ig 29 [bP false,.v (.int .u64 1),.v (.int .u64 (T:Int))] (.iB [.agg [iP 1,iP (T:Int)],bP true]):=by
 have:=XK false 1 T h1 aD aD (by rw[anE];decide) (by rw[anE,dL];exact h2);rwa[anE,dL,dL]at this
def ahU(j T:Nat)(hj:j<=9)(hv:(nh (-(j:Int))).iu)(hT:IntKind.u64.wrap (1*2^((j:Int)).toNat)=(T:Int))(h1:0<T)(h2:T<=1073741824):ig 7 [im (Dy.mk false 1 (-(j:Int)))] (.iB [.agg [iP 1,iP (T:Int)],bP true]):=by
 have wO:(ij 1).length=1:=by rw[C3];rfl
 exact ak call7 func7 (af [ag [im (Dy.mk false 1 (-(j:Int)))] (BS (nh (-(j:Int))) hv),ai 13 (decide (1<((ij 1).length:Int))) (by rw[C3];rfl),tF 18 ((-(j:Int))<(-30)) aD,tF 23 (30<(-(j:Int))) aD,ai 29 (((ij 1).length:Int)==0) (by rw[C3];rfl),iX 0 ((ij 1).length) aD,.o 35 (.int (by rw[C3];rfl):aj (.v (.int .u64 (IntKind.u64.wrap (((ij 1).getD 0 0:Nat):Int)))) (.v (.int .u64 1))),tF 38 (0<(-(j:Int))) aD,iC (0-(-(j:Int))) aD,.o 46 (an (0-(-(j:Int))) j aD),.a (aD:0<=((j:Int):Int)/\((j:Int):Int)<=((64:Nat):Int)),.o 47 (.int hT:aj (.v (.int .u64 (IntKind.u64.wrap (1*2^j)))) (.v (.int .u64 (T:Int)))),ai 49 (decide ((1073741824:Int)<1)) aF,tF 52 (1073741824<(T:Int)) aD,ag [bP false,.v (.int .u64 1),.v (.int .u64 (T:Int))] (agD T h1 h2)]) 
def aeV(x:Iv)(N:Int)(D:Nat)(hx:x.iu)(hr:jN N (D:Int)=true):ig 16 [ix x,.agg [iP N,iP D]] (bP (xB x N D)):=by
 obtain⟨w1,w2⟩:=hx.kn;obtain⟨r1,r2,qb,qV⟩:=pn hr;have zS:1<=D:= aD ;have xA:D<=1073741824:= aD ;have hg:Nat.gcd N.natAbs D=1:=by
  unfold jN at hr;simp only[bY,cH,dj]at hr;exact hr.2.2.2.2
 exact ak call16 func16 (ae [.c (OL N D x.lo w1 zS xA qb qV hg),.c (OL N D x.hi w2 zS xA qb qV hg)]<|.w (x.all=true)
  (λk1=>ae [tB 24 k1]<|rQ (bP true) (bP (xB x N D)) (by unfold xB;simp[k1]))
  (λk1=>ae [tB 24 (bh k1),ah 27 ((0:Int)==0) aF,ah 30 ((0:Int)==0) aF]<|.w (0<=(mz N D x.lo))
   (λk2=>ae [tB 34 (bq k2)]<|rQ (bP (decide ((mz N D x.hi)<=0))) (bP (xB x N D)) (by unfold xB;simp[k1,k2]))
   (λk2=>ae [tB 34 (bt k2)]<|rQ (bP false) (bP (xB x N D)) (by unfold xB;simp[k1,k2])))) 
def afU(x y:Iv)(hx:x.iu)(hy:y.iu)(hm:Ft x y):ig 19 [ix x,ix y] (.iB [ix (Aq x y),bP true]):=by
 obtain⟨w1,w2⟩:=hx.kn;obtain⟨w3,w4⟩:=hy.kn;have w5:=pF w1 w3;have w6:=qw w2 w4;exact ak call19 func19 (ae [.c (si x aE),.c (si y aE)]<|.w (x.all=true)
  (λk1=>ae [tB 19 k1]<|rQ (.iB [ix y,bP true]) (.iB [ix (Aq x y),bP true]) (by unfold Aq;simp[k1]))
  (λk1=>ae [tB 19 (bh k1)]<|.w (y.all=true)
   (λk2=>ae [tB 23 k2]<|rQ (.iB [ix x,bP true]) (.iB [ix (Aq x y),bP true]) (by unfold Aq;simp[k1,k2]))
   (λk2=>by
    have hmc:=agW hx hy hm (bh k1) (bh k2);exact ae [tB 23 (bh k2),.c (Nk x.lo y.lo aE aE),.c (Ni x.hi y.hi aE aE),ag [im (je x.lo y.lo),im (ji x.hi y.hi)] (nK _ _ aE aE)]<|.w (0<(jA (je x.lo y.lo) (ji x.hi y.hi)))
     (λk3=>.x (by exact absurd hmc aD))
     (λk3=>ae [tB 41 (bt k3)]<|rQ (.iB [ix (Iv.mk (je x.lo y.lo) (ji x.hi y.hi) false),bP true]) (.iB [ix (Aq x y),bP true]) (by unfold Aq;simp[k1,k2]))))) 
def VO(x y:Iv)(hx:x.iu)(hy:y.iu):ig 47 [ix x,ix y] (ix (iI x y 320)):=
 ak call47 func47 (af [.c (XN x y 320 hx hy aD aD)]) 
def Nr(n:Int)(h:n.natAbs<4294967296):ig 45 [iP n] (ix (iN n)):=
 ak call45 func45 (af [ag [iP n] (OX _ aD),.c (JE (jY n))]) 
def Nq(n d:Int)(hr:jN n d=true):ig 44 [.agg [iP n,iP d]] (ix (lu n d 320)):=
 ak call44 func44 (af [ag [.agg [iP n,iP d],iP 320] (Lw _ _ 320 hr aF aF)]) 
def af9(x:Iv)(h:x.all=true):ig 53 [ix x] (ix x):=
 ak call53 func53 (af [ah 6 x.all h]) 
def agb(x P Q:Iv)(h:x.all=false)(hP:ig 114 [im x.lo] (ix P))(hQ:ig 114 [im x.hi] (ix Q)):ig 53 [ix x] (ix (wB P Q)):=
 ak call53 func53 (ae [ai 6 x.all h,ag [im x.lo] hP,ag [im x.hi] hQ]<|.w (P.all=true)
  (λk1=>ae [tB 15 k1,.c oD]<|rQ (ix il) (ix (wB P Q)) (by unfold wB;simp[k1]))
  (λk1=>ae [tB 15 (bh k1)]<|.w (Q.all=true)
   (λk2=>ae [tB 18 k2,.c oD]<|rQ (ix il) (ix (wB P Q)) (by unfold wB;simp[k1,k2]))
   (λk2=>ae [tB 18 (bh k2)]<|rQ (ix (Iv.mk P.lo Q.hi false)) (ix (wB P Q)) (by unfold wB;simp[k1,k2])))) 
def Fp.Iv.iu.agm{x:Iv}(hx:x.iu)(ha:x.all=false):x.lo.q<=x.hi.q:=(hx.wG.kn ha).2
def aga(x:Iv)(hx:x.iu):∃ E:Iv,E.iu/\ig 53 [ix x] (ix E)/\∀ r,x.jB r->nI (EQ r) E:=by
 cases ha:x.all with
 |true=>exact⟨x,hx,af9 x ha,λr _=>nI.all ha⟩
 |false=>
  obtain⟨v1,v2⟩:=hx.kn;obtain⟨P,vP,lP,pP⟩:=XS x.lo v1;obtain⟨Q,vQ,lQ,pQ⟩:=XS x.hi v2;have hle:x.lo.q<=x.hi.q:=hx.agm ha;refine⟨wB P Q,?_,agb x P Q ha pP pQ,λr hr=>?_⟩
  .unfold wB;cases pa:P.all with
   |true=>exact mA
   |false=>
    cases qa:Q.all with
    |true=>exact mA
    |false=>
     have:=VR lP lQ (λε hε=>Ce hle hε) pa qa;exact .inr ⟨rfl,vP.kn.1,vQ.kn.2,(qx _ _).2 this⟩
  .obtain ⟨a,b⟩:=hr.kn ha;exact adf lP lQ a b
def agi(a b c d u v:Int)(hE:¬(jN a b=true/\jN c d=true)):ig 3 [.agg [iP a,iP b],.agg [iP c,iP d],.v (.int .u8 u),.v (.int .u8 v)] (bP true):=
 ak call3 func3 (ae [.c Qt,.c (qA a b)]<|.w (jN a b=true)
  (λk1=>ae [tB 38 k1,.c (qA c d)]<|.w (jN c d=true)
   (λk2=>.x (by exact absurd ⟨aE,aE⟩ hE))
   (λk2=>af [tB 42 (bh k2)]))
  (λk1=>af [tB 38 (bh k1)])) 
def agj(a b c d u v:Int)(j k T:Nat)(H:Dy)(X Y K Z:Iv)(U W:List Iv)(M N:List (List Iv))(e f g h n1 d1 e1 n2 d2 e2 n3 d3 e3 n4 d4 e4:Int)(hu:0<=u/\u<=255)(hv:0<=v/\v<=255)(r1:jN a b=true)(r2:jN c d=true)(hj:Int.tmod (0-u) 10 = -(j:Int))(zY:j<=9)(hk:Int.tmod v 16=(k:Int)-1)(yO:1<=k/\k<=16)(hH:ig 6 [iP 1,iP (-(j:Int))] (im H))(L7:ig 7 [im H] (.iB [.agg [iP 1,iP (T:Int)],bP true]))(hX:ig 8 [.agg [iP a,iP b],iP 64] (ix X))(hY:ig 8 [.agg [iP c,iP d],iP 64] (ix Y))(hS1:ig 9 [iP 0,.v (.slice none 0 0)] (lI mM))(hS2:ig 9 [iP 4,iz [Y]] (lI (sK Y)))(LV:ig 10 [lI mM,iz [X],im H,iP 64] (.iB [iz U,iP e]))(zT:ig 10 [lI (sK Y),iz [X],im H,iP 64] (.iB [iz W,iP g]))(Ib:ig 12 [im H] (ix (iV H)))(LW:e=0->ig 11 [lI mM,iz U,ix (iV H),iP (k:Int),iP 64] (.iB [iU M,iP f]))(LX:g=0->ig 11 [lI (sK Y),iz W,ix (iV H),iP (k:Int),iP 64] (.iB [iU N,iP h]))(q1:ig 13 [.agg [iP a,iP b],.agg [iP 1,iP (T:Int)]] (.iB [.agg [iP n1,iP d1],iP e1]))(q2:ig 14 [.agg [iP 1,iP 1],.agg [iP n1,iP d1]] (.iB [.agg [iP n2,iP d2],iP e2]))(q3:ig 13 [.agg [iP n2,iP d2],.agg [iP n2,iP d2]] (.iB [.agg [iP n3,iP d3],iP e3]))(q4:ig 15 [.agg [iP 1,iP 1],.agg [iP n3,iP d3]] (.iB [.agg [iP n4,iP d4],iP e4]))(rZ:e=0->f=0->e1=0->e2=0->e3=0->e4=0->((M.length:Int) != 1)=false/\(((M.getD 0 []).length:Int) != 1)=false/\(M.length=1/\(M.getD 0 []).length=1)/\ig 16 [ix ((M.getD 0 []).getD 0 il),.agg [iP n4,iP d4]] (bP true))(hK:ig 17 [iP 4,(.sl true 1 2 λi_ j_=>[iP 1,iP 1].getD (i_*2+j_) (.v (.bool false))),(.sl true 1 2 λi_ j_=>[iP c,iP d].getD (i_*2+j_) (.v (.bool false))),.agg [iP 1,iP T]] (.iB [iz [K],bP true]))(mq:g=0->h=0->N.length=1/\(N.getD 0 []).length=1/\ig 18 [iU N] (bP true)/\ig 19 [ix ((N.getD 0 []).getD 0 il),ix K] (.iB [ix Z,bP true])):ig 3 [.agg [iP a,iP b],.agg [iP c,iP d],.v (.int .u8 u),.v (.int .u8 v)] (bP true):=by
 obtain⟨u1,u2⟩:=hu;obtain⟨v1,v2⟩:=hv;obtain⟨k1,k2⟩:=yO;have hKl:=oC K;exact ak call3 func3 (ae [.c Qt,.c (qA a b),ah 38 (jN a b) r1,.c (qA c d),ah 42 (jN c d) r2,.o 46 (an (IntKind.i64.wrap u) u (i64_in _ aD aD)),iC (0-u) aD,.a (aD:0<(10:Int)),.o 48 (an (Int.tmod (0-u) 10) (-(j:Int)) hj),ag [iP 1,iP (-(j:Int))] hH,ag [im H] L7,.o 56 (an (IntKind.i64.wrap v) v (i64_in _ aD aD)),.a (aD:0<(16:Int)),.o 57 (an (Int.tmod v 16) ((k:Int)-1) hk),
  iC (1+((k:Int)-1)) aD,.o 58 (an (1+((k:Int)-1)) k aD),ag [.agg [iP a,iP b],iP 64] hX,.o 61 (.e (mr _):aj (.sl true 1 7 λi_ j_=>(iZ X).getD (i_*7+j_) (.v (.bool false))) (iz [X])),ag [iP 0,.v (.slice none 0 0)] hS1,ag [lI mM,iz [X],im H,iP 64] LV,.j 142 ⟨205,true,[(14,.box 14 0),(13,.e (iz [X])),(12,.e (iP k)),(10,.box 10 0),(9,.box 9 0),(5,.box 5 0),(4,.box 4 0)],[(14,.cells 41 [iP mM.tape.iW,mw mM.tape.ik,mu mM.tape.iL,iP mM.jo,iz mM.params]),(10,.cells 23 [iP 1,iP T]),(9,.cells 28 (jc H)),(5,.cells 23 [iP c,iP d]),(4,.cells 23 [iP a,iP b])]⟩
   (.w (e=0)
    (λm1=>ae [.v 71 (.bool (bg m1)),ag [im H] Ib,ag [lI mM,iz U,ix (iV H),iP k,iP 64] (LW aE),ag [.agg [iP a,iP b],.agg [iP 1,iP T]] q1,ag [.agg [iP 1,iP 1],.agg [iP n1,iP d1]] q2,ag [.agg [iP n2,iP d2],.agg [iP n2,iP d2]] q3,ag [.agg [iP 1,iP 1],.agg [iP n3,iP d3]] q4]<|.w (f=0)
     (λm2=>ae [tB 106 (bg m2)]<|.w (e1=0)
      (λm3=>ae [tB 109 (bg m3)]<|.w (e2=0)
       (λm4=>ae [tB 113 (bg m4)]<|.w (e3=0)
        (λm5=>ae [tB 117 (bg m5)]<|.w (e4=0)
         (λm6=>by
          have mE:=rZ aE aE aE aE aE aE;have w1:=mE.1;have w2:=mE.2.1;have w0:=mE.2.2.1;have w3:=mE.2.2.2;exact af [tB 121 (bg m6),ai 126 ((M.length:Int) != 1) w1,iX 0 (M.length) aD,ai 132 (((M.getD 0 []).length:Int) != 1) w2,iX 0 (M.length) aD,
           iX 0 ((M.getD 0 []).length) aD,ag [ix ((M.getD 0 []).getD 0 il),.agg [iP n4,iP d4]] w3])
         (λm6=>af [tB 121 (bd m6)]))
        (λm5=>af [tB 117 (bd m5)]))
       (λm4=>af [tB 113 (bd m4)]))
      (λm3=>af [tB 109 (bd m3)]))
     (λm2=>af [tB 106 (bd m2)]))
    (λm1=>af [.v 71 (.bool (bd m1))])),ag [.agg [iP c,iP d],iP 64] hY,.o 147 (.e (mr _):aj (.sl true 1 7 λi_ j_=>(iZ Y).getD (i_*7+j_) (.v (.bool false))) (iz [Y])),ag [iP 4,iz [Y]] hS2,ag [lI (sK Y),iz [X],im H,iP 64] zT]<|.w (g=0)
  (λk1=>ae [tB 157 (bj k1)]<|.w (a=0)
   (λk2=>af [tB 161 (bg k2)])
   (λk2=>ae [tB 161 (bd k2),ag [im H] Ib,ag [lI (sK Y),iz W,ix (iV H),iP k,iP 64] (LX aE),ag [iP 4,(.sl true 1 2 λi_ j_=>[iP 1,iP 1].getD (i_*2+j_) (.v (.bool false))),(.sl true 1 2 λi_ j_=>[iP c,iP d].getD (i_*2+j_) (.v (.bool false))),.agg [iP 1,iP T]] hK]<|.w (h=0)
    (λk3=>by
     have mE:=mq aE aE;have w4:=mE.1;have w7:=mE.2.1;have w5:=mE.2.2.1;have w6:=mE.2.2.2;exact af [tB 182 (bj k3),ag [iU N] w5,iX 0 (N.length) aD,iX 0 ((N.getD 0 []).length) aD,iX 0 ([K].length) aD,ag [ix ((N.getD 0 []).getD 0 il),ix ([K].getD 0 il)] w6])
    (λk3=>af [tB 182 (bk k3),tB 188 (bk k3)])))
  (λk1=>af [tB 157 (bk k1)])) 
def agc : ig 43 [iP 4] (.iB [iP 1,iP 1]):=
 ak call43 func43 (af [ai 6 ((4:Int)==1) aF,ah 8 ((4:Int)==4) aF]) 
def agh(c d:Int)(T:Nat)(E:Iv)(p0:jN 1 1=true)(p1:jN 1 (T:Int)=true)(p2:jN c d=true)(vE:E.iu)(hE:ig 53 [ix (iI (lu c d 320) (lu 1 (T:Int) 320) 320)] (ix E)):ig 17 [iP 4,(.sl true 1 2 λi_ j_=>[iP 1,iP 1].getD (i_*2+j_) (.v (.bool false))),(.sl true 1 2 λi_ j_=>[iP c,iP d].getD (i_*2+j_) (.v (.bool false))),.agg [iP 1,iP T]] (.iB [iz [iI (lu 1 1 320) E 320],bP true]):=
 ak call17 func17 (af [.c agc,ai 39 (decide ((4:Int)<0)) aF,ai 42 (decide ((10:Int)<=4)) aF,ai 48 ((1:Int) != 1) aF,ai 54 ((1:Int) != 1) aF,ai 59 (decide (1<0)) (by first|rfl|decide|(simp;done)|omega),iX 0 1 aD,.c (Nq 1 1 p0),.c (Nq 1 (T:Int) p1),.c (Nr 0 aF),.c (Nr 0 aF),ai 70 (decide ((1:Int)<1)) aF,ah 76 (decide ((0:Int)<1)) aF,iX 0 1 aD,.c (Nq c d p2),.c (Nr 1 aF),ai 84 ((4:Int)==0) aF,ai 97 ((4:Int)==1) aF,ai 117 ((4:Int)==2) aF,ai 133 ((4:Int)==3) aF,ah 161 ((4:Int)==4) aF,.c (VO (lu c d 320) (lu 1 (T:Int) 320) (zk _ _ aF aF) (zk _ _ aF aF)),ag [ix (iI (lu c d 320) (lu 1 (T:Int) 320) 320)] hE,.c (VO (lu 1 1 320) E (zk _ _ aF aF) vE),.o 168 (.e (mr _):aj (.sl true 1 7 λi_ j_=>(iZ (iI (lu 1 1 320) E 320)).getD (i_*7+j_) (.v (.bool false))) (iz [iI (lu 1 1 320) E 320]))]) 
def Yu{n d:Int}{p:Nat}(hr:jN n d=true)(hp:8<=p)(iq:p<=512):(lu n d p).all=false:=by
 obtain⟨r1,r2,r3,r4⟩:=pn hr;obtain⟨e,rfl⟩:=dk (aD:0<=d);by_cases h0:n=0
 .subst h0;rw[Yt hp iq hr]
 by_cases h1:0<n
 .obtain ⟨k,rfl⟩:=dk (aD:0<=n);obtain⟨K,k1,_,k2⟩:=Hk (n:=k) (d:=e) aD aD aD p;rw[Ys aD aD hp iq k1 k2 hr]
 .obtain ⟨k,rfl⟩:∃ k:Nat,n = -(k:Int):=⟨n.natAbs,aD⟩
  obtain⟨K,k1,_,k2⟩:=Hk (n:=k) (d:=e) aD aD aD p;rw[Yr aD aD hp iq k1 k2 hr]
def SB(s:kG)(X:Iv)(H:Dy)(hs:mO s)(hb:kU s.jo [X])(vH:H.iu)(h0:0<H.jh):
 ∃ U e,ig 10 [lI s,iz [X],im H,iP 64] (.iB [iz U,iP e])/\(e=0->kU s.jo U/\qK s [X] H U 64=true):=by
 obtain⟨o,p,q,_⟩:=ac5 s [X] H 64 hs hb vH h0 aF aF;cases o with
 |some b=>exact⟨b,0,p,λ_=>q b rfl⟩
 |none=>exact⟨[],12,ql p (.iB (.cons (.nil _ _ _) (.cons (.refl _) .nil))),λe=>absurd e aF⟩
def abk(A:Iv):ig 9 [iP 4,iz [A]] (lI (sK A)):=by
 refine(abz A).kj (.agg (.cons (.refl _) (.cons ?_ (.cons ?_ (.cons (.refl _) (.cons (.refl _) .nil))))))
 .refine .sl λi j hi hj=>?_
  have hi:i<1:=hi;obtain rfl:i=0:= aD ;rcases j with _|_|_|_|_|_|j
  all_goals first|exact⟨.jb rfl,rfl⟩|omega
 .refine .sl λi j hi hj=>?_
  have hi:i<1:=hi;obtain rfl:i=0:= aD ;obtain rfl:j=0:= aD ;exact⟨.jb rfl,rfl⟩
def V4{M:List (List Iv)}(h:ke M 1 1):M.length=1/\(M.getD 0 []).length=1/\((M.getD 0 []).getD 0 il).iu:=by
 refine⟨h.jm,h.mF aF,h.qP aF aF⟩
def WK{n:Nat}(h:n=1):((n:Int) != 1)=false:=by subst h;rfl
def alP(j:Nat):(nh (-(j:Int))).q*((2^j:Nat):Rat)=1:=by
 have e:(nh (-(j:Int))).q=P2 (-(j:Int)):=by
  rw[pU];show(if false=true then _ else((1:Nat):Rat)*P2 (-(j:Int)))=_;rw[bl aF];have:((1:Nat):Rat)=1:=rfl;rw[this,dY]
 rw[e,<-uN,<-tO,(aD:-(j:Int)+j=0),DM]
def alG(u:Int)(h:0<=u):Int.tmod (-u) 10 = -((u.toNat%10:Nat):Int):=by
 rw[Int.neg_tmod,amX h];omega
def alH(u:Int)(h:0<=u):Int.tmod u 16=((u.toNat%16+1:Nat):Int)-1:=by
 rw[amX h];omega
def aih{j:Nat}(h:j<=9):IntKind.u64.wrap (1*2^((j:Int)).toNat)=((2^j:Nat):Int)/\0<2^j/\2^j<=1073741824/\jN 1 ((2^j:Nat):Int)=true:=by
 have:j=0\/j=1\/j=2\/j=3\/j=4\/j=5\/j=6\/j=7\/j=8\/j=9:= aD ;rcases this with h|h|h|h|h|h|h|h|h|h<;>subst h<;>exact⟨aF,aF,aF,aF⟩
def alm(A:Iv):uP (sK A).tape:=λi=>by
 rcases i with _|i
 .show 5<=8;decide
 .show iF.kind<=8;decide
def aln:uP mM.tape:=λi=>by
 rcases i with _|_|i
 .decide
 .decide
 .show iF.kind<=8;decide
def agl(x y:Int×Int)(u v:Int)(hu:0<=u/\u<=255)(hv:0<=v/\v<=255):ig 3 [.agg [iP x.1,iP x.2],.agg [iP y.1,iP y.2],.v (.int .u8 u),.v (.int .u8 v)] (bP true):=by
 obtain⟨a,b⟩:=x;obtain⟨c,d⟩:=y;show ig 3 [.agg [iP a,iP b],.agg [iP c,iP d],.v (.int .u8 u),.v (.int .u8 v)] (bP true);by_cases hE:¬(jN a b=true/\jN c d=true)
 .exact agi a b c d u v hE
 obtain⟨r1,r2⟩:=Classical.not_not.1 hE;obtain⟨j,ej⟩:∃ j,j=u.toNat%10:=⟨_,rfl⟩
 obtain⟨k,ek⟩:∃ k,k=v.toNat%16+1:=⟨_,rfl⟩
 have hj:Int.tmod (0-u) 10 = -(j:Int):=by rw[ej,Int.zero_sub];exact alG u hu.1
 have hk:Int.tmod v 16=(k:Int)-1:=by rw[ek];exact alH v hv.1
 have MJ:j<=9:= aD ;have yO:1<=k/\k<=16:= aD ;obtain⟨T,eT⟩:∃ T,T=2^j:=⟨_,rfl⟩
 obtain⟨t1,t2,t3,t4⟩:=aih MJ;rw[<-eT]at t1 t2 t3 t4;obtain⟨H,eH⟩:∃ H,H=nh (-(j:Int)):=⟨_,rfl⟩
 have vH:H.iu:=by rw[eH];exact Kd aD aD 
 have TK:H.q*((T:Nat):Rat)=1:=by rw[eH,eT];exact alP j
 have Me:(0:Rat)<((T:Nat):Rat):=cV.2 t2;have TJ:0<H.q:=by
  apply gF.1;intro q;have:=cI q (bH Me);rw[TK]at this
  grind
 have h0:0<H.jh:=(ri H).1.2 TJ;have hH:ig 6 [iP 1,iP (-(j:Int))] (im H):=by
  have:=I5 1 (-(j:Int)) aF aD aD;rw[eH];have e:lY 1 (-(j:Int))=nh (-(j:Int)):=KW _;rwa[e]at this
 have L7:ig 7 [im H] (.iB [.agg [iP 1,iP (T:Int)],bP true]):=by rw[eH]at vH ⊢;exact ahU j T MJ vH t1 t2 t3
 have vX:(lu a b 64).iu:=zk _ _ aF aF;have vY:(lu c d 64).iu:=zk _ _ aF aF;have aX:=Yu (p:=64) r1 aF aF;have aY:=Yu (p:=64) r2 aF aF;have hX:=Lw a b 64 r1 aF aF;have hY:=Lw c d 64 r2 aF aF;have xX:=F6 (p:=64) r1 aF aF;have xY:=F6 (p:=64) r2 aF aF;generalize lu a b 64=X at *
 generalize lu c d 64=Y at *
 have sM:=Zc vY aY;obtain⟨U,e,LV,bU⟩:=SB mM X H Pw (J2 vX aX) vH h0;obtain⟨W,g,zT,bW⟩:=SB (sK Y) X H sM (J2 vX aX) vH h0;have vP:=qO vH;have hP:(iV H).jB H.q:=Dg H;obtain⟨M,f,LW,gM⟩:∃ M f,(e=0->ig 11 [lI mM,iz U,ix (iV H),iP (k:Int),iP 64] (.iB [iU M,iP f]))/\(e=0->f=0->tp (q8 mM U 64) (iV H) k 64=some M/\ke M 1 1):=by
  by_cases q:e=0
  .obtain ⟨M,f,h1,h2⟩:=Ta mM U (iV H) k 64 Pw (bU q).1 aln vP rfl yO.1 yO.2 aF aF ;exact⟨M,f,λ_=>h1,λ_=>h2⟩
  .exact ⟨[],0,λq2=>absurd q2 q,λq2=>absurd q2 q⟩
 obtain⟨N,h,LX,gN⟩:∃ N h,(g=0->ig 11 [lI (sK Y),iz W,ix (iV H),iP (k:Int),iP 64] (.iB [iU N,iP h]))/\(g=0->h=0->tp (q8 (sK Y) W 64) (iV H) k 64=some N/\ke N 1 1):=by
  by_cases q:g=0
  .obtain ⟨N,h,h1,h2⟩:=Ta (sK Y) W (iV H) k 64 sM (bW q).1 (alm Y) vP rfl yO.1 yO.2 aF aF ;exact⟨N,h,λ_=>h1,λ_=>h2⟩
  .exact ⟨[],0,λq2=>absurd q2 q,λq2=>absurd q2 q⟩
 obtain⟨n1,d1,e1,q1,w1⟩:=Ww a b 1 (T:Int);obtain⟨n2,d2,e2,q2,w2⟩:=Z4 1 1 n1 d1;obtain⟨n3,d3,e3,q3,w3⟩:=Ww n2 d2 n2 d2;obtain⟨n4,d4,e4,q4,w4⟩:=acf 1 1 n3 d3;have vm:(iI (lu c d 320) (lu 1 (T:Int) 320) 320).iu:=lX _ _ aF aF;obtain⟨E,vE,hE,lE⟩:=aga _ vm;have hK:=agh c d T E aF t4 r2 vE hE;have Ih:((1:Int):Rat)/((T:Int):Rat)=H.q:=by
  rw[y5];have kq:((T:Nat):Rat)≠0:=λq=>by rw[q]at Me;exact absurd Me aF 
  have e1:((1:Int):Rat)=1:=rfl;rw[e1,<-TK,fQ kq]
 have lK:nI (EQ ((c:Rat)/(d:Rat)*H.q)) E:=by
  refine lE _ ?_;have:=sZ (zk c d (p:=320) aF aF) (zk 1 (T:Int) (p:=320) aF aF) (p:=320) aF aF (F6 r2 aF aF) (F6 t4 aF aF);rwa[Ih]at this
 have vK:(iI (lu 1 1 320) E 320).iu:=lX _ _ aF aF;have oneR:(lu 1 1 320).jB 1:=by
  have:=F6 (n:=1) (d:=1) (p:=320) aF aF aF;have e:((1:Int):Rat)/((1:Int):Rat)=1:= aP ;rwa[e]at this
 have lK2:=lK.ag4 (zk 1 1 (p:=320) aF aF) vE oneR (p:=320) aF aF;refine agj a b c d u v j k T H X Y (iI (lu 1 1 320) E 320) (Aq ((N.getD 0 []).getD 0 il) (iI (lu 1 1 320) E 320)) U W M N e f g h n1 d1 e1 n2 d2 e2 n3 d3 e3 n4 d4 e4
  hu hv r1 r2 hj MJ hk yO hH L7 hX hY abl (abk Y) LV zT (xM H vH) LW LX q1 q2 q3 q4 ?_ hK ?_
 .intro z1 z2 z3 z4 z5 z6;obtain⟨x1,x2⟩:=gM z1 z2;obtain⟨y1,y2,y3⟩:=V4 x2;obtain⟨o1,o2⟩:=bU z1;obtain⟨B,rfl,vB,aB⟩:=Q7 o1;obtain⟨_,_,p1,p2⟩:=w1 z3;obtain⟨_,_,p3,p4⟩:=w2 z4;obtain⟨_,_,p5,p6⟩:=w3 z5;obtain⟨_,_,p7,p8⟩:=w4 z6;have e11:((1:Int):Rat)/((1:Int):Rat)=1:= aP ;rw[e11]at p4 p8;rw[Ih]at p2;rw[p2]at p4;rw[p4]at p6;rw[p6]at p8;obtain⟨D4,rfl⟩:=dk (show 0<=d4 by have:=pn p7;omega);have Uz:=adN vX vB aB vH TJ (p:=64) aF aF yO.2 o2 xX (r:=(n4:Rat)/(((D4:Int):Int):Rat)) p8 vP rfl hP x1;rw[y5]at Uz;have hh:=aeV _ n4 D4 y3 p7;have wK:xB ((M.getD 0 []).getD 0 il) n4 D4=true:=aeX (by have:=pn p7;omega) Uz;rw[wK]at hh;exact⟨WK y1,WK y2,⟨y1,y2⟩,hh⟩
 .intro z1 z2;obtain⟨x1,x2⟩:=gN z1 z2;obtain⟨y1,y2,y3⟩:=V4 x2;obtain⟨o1,o2⟩:=bW z1;obtain⟨B,rfl,vB,aB⟩:=Q7 o1;have hm:=nI.agU (adM vY aY vB aB (p:=64) aF aF yO.2 xY vP rfl hP x1) lK2;exact⟨y1,y2,agF _ _ x2,afU _ _ y3 vK hm⟩
open Go.ChangeShapes Go.WideShapes Go.ChangeAt
def agB{α:Type}{l:List α}(h:l.length=2):∃ a b,l=[a,b]:=by
 rcases l with _|⟨a,_|⟨b,_|⟨c,l⟩⟩⟩<;>simp at h
 exact⟨a,b,rfl⟩
section
variable {H:Type} {enc:TypeId×Value->H} {W:World} {fuel:Nat} {cs:List Value} {x:DataW H×List MemPlace}
def Xa(h:DataW.trod enc prog W 0 (λ_=>true) true fuel 3 cs=some x):∃ z,cs=[.int .i64 z]/\nA .i64 z:=by
 obtain⟨z,hz,_,hw⟩:=DataW.trod_int underlying3 h;exact⟨z,hz,PL hw⟩
def ah4(h:DataW.trod enc prog W 0 (λ_=>true) true fuel 23 cs=some x):∃ n d,cs=[.int .i64 n,.int .i64 d]/\nA .i64 n/\nA .i64 d:=by
 obtain⟨xs,n,rfl,rfl,hl,sX,hf⟩:=DataW.trod_struct underlying23 h;have hC:prog.cellsOf 23=2:= aG ;have hI:prog.cellsOf 3=1:= aG ;rw[hC]at hl;obtain⟨c0,c1,rfl⟩:=agB hl;have h0:=hf 0 _ rfl;have h1:=hf 1 _ rfl;simp only[List.getElem_toArray,List.getElem_cons_zero,am3]at h0 h1;simp only[hI,List.drop_zero,List.drop_succ_cons,List.take_succ_cons,List.take_zero]at h0 h1;rw[bD (by rw[sX];decide)]at h0 h1;obtain⟨z0,e0,w0⟩:=Xa h0;obtain⟨z1,e1,w1⟩:=Xa h1;simp at e0 e1;subst e0 e1;exact⟨z0,z1,rfl,w0,w1⟩
end
def SW:Value:=.agg #[.int .i64 0,.int .i64 0]
def SX{H:Type}:DataW H:=.agg [.lit (.int .i64 0),.lit (.int .i64 0)]
def Xb{H:Type}{enc:TypeId×Value->H}{W:World}{fuel:Nat}{cs:List Value}{x:DataW H×List MemPlace}(h:DataW.trod enc prog W 0 (λ_=>true) true fuel 23 cs=some x):∃ p:Int×Int,cs=[.int .i64 p.1,.int .i64 p.2]:=by
 obtain⟨n,d,e,_,_⟩:=ah4 h;exact⟨(n,d),e⟩
def XZ{W:World}{p:Int×Int}{cs:Array Value}(h:cs.toList=[.int .i64 p.1,.int .i64 p.2]):iR FJ FJ W (.agg [iP p.1,iP p.2]) (.agg cs):=by
 obtain⟨l⟩:=cs;have h:l=[.int .i64 p.1,.int .i64 p.2]:=h;subst h;exact iR.agg (bs:=FJ) (br:=FJ) (w:=W) [iP p.1,iP p.2] [.int .i64 p.1,.int .i64 p.2] rfl λi q v h1 h2=>by
  rcases i with _|_|i
  .cases h1;cases h2;exact .v _
  .cases h1;cases h2;exact .v _
  .cases h1
def Ca:Array Value:=#[SW,SW,.int .u8 0,.int .u8 0]
set_option maxRecDepth 100000 in
def ama(H:Type)(enc:TypeId×Value->H)(W:World)(base:Nat)(args:Array Value)(ds gs:List (DataW H))(before:List MemPlace)
 (lr:∀ (j:Nat) t v,Tryz.f3.params[j]? = some t->args[j]? = some v->Value.okWide prog W .any base t v)
 (hW:DataW.Whole enc prog Tryz.f3.params.toList Rows.variationKnownSpec.vars false W args.toList ds gs before) (hL:laidMetH prog Rows.variationKnownRow.laid W):
 Calls prog 3 args W λe W'=>∃ v,e = .returned v/\Rows.variationKnownSpec.post enc prog Tryz.f3 false true false false W args v W':=by
 have Mh:=hW;obtain⟨p,q,CC,hV,rfl,hfz,hnd⟩:=hW;have hA:DataW.TrodAll enc prog W 0 (λ_=>true) true Tryz.f3.params.toList args.toList ds p:=CC;rw[Tryz.params3]at hA lr;obtain⟨v0,vs0,d0,ds0,p0,q0,CX,rfl,rfl,h0,CC⟩:=trodAll_cons hA;obtain⟨v1,vs1,d1,ds1,p1,q1,rfl,rfl,rfl,h1,hA1⟩:=trodAll_cons CC;obtain⟨v2,vs2,d2,ds2,p2,q2,rfl,rfl,rfl,h2,hA2⟩:=trodAll_cons hA1;obtain⟨v3,vs3,d3,ds3,p3,q3,rfl,rfl,rfl,h3,hA3⟩:=trodAll_cons hA2;obtain⟨rfl,rfl,rfl⟩:=trodAll_nil hA3;obtain rfl:args = #[v0,v1,v2,v3]:=by cases args;simp_all
 obtain⟨rfl,rfl⟩:=trodVars_none hV;obtain⟨cs0,rfl,amG⟩:=okWide_struct underlying23 (lr 0 23 v0 rfl rfl);obtain⟨cs1,rfl,amH⟩:=okWide_struct underlying23 (lr 1 23 v1 rfl rfl);obtain⟨x2,rfl,rfl,rfl,b2⟩:=open_int underlying5 (lr 2 5 v2 rfl rfl) h2;obtain⟨x3,rfl,rfl,rfl,b3⟩:=open_int underlying5 (lr 3 5 v3 rfl rfl) h3;have h0k:=h0;obtain⟨fuel0,hf0⟩:=h0;have h1k:=h1;obtain⟨fuel1,MA⟩:=h1;clear CC;have EF:∀ x ∈ p0,x.block<W.heap.size:=λx hx=>Mh.lt x (by simp[hx])
 have CL:∀ x ∈ p1,x.block<W.heap.size:=λx hx=>Mh.lt x (by simp[hx])
 obtain⟨x0,g0⟩:=Xb hf0;obtain⟨x1,g1⟩:=Xb MA;have mg:=(agl x0 x1 x2 x3 (PL b2) (PL b3)).run W FJ [.agg cs0,.agg cs1,.int .u8 x2,.int .u8 x3] (alE rfl hL) (λ_ h=>h.elim) (.cons (XZ (cs:=cs0) g0) (.cons (XZ (cs:=cs1) g1) (.cons (.v _) (.cons (.v _) (.nil _ _ _)))));refine mg.mono λr W' ⟨v,hr,hb,r9⟩=>?_
 obtain rfl:=iR.kN r9;subst hr;refine⟨_,rfl,_,_,_,[],p0++(p1++([]++([]))),[],Mh,?_,?_,rfl,hb.frame _,λh=>by cases h⟩
 .exact trodAll_mk1 (shut_bool underlying4 _)
 .exact ⟨p0,_,Below.trod I4 aG (dK aG) h0k hb EF,⟨p1,_,Below.trod I4 aG (dK aG) h1k hb CL,⟨[],_,Below.trod I4 aG (dK aG) h2 hb (λ_ h=>by cases h),trodAll_mk1 (Below.trod I4 aG (dK aG) h3 hb (λ_ h=>by cases h)),rfl⟩,rfl⟩,rfl⟩
def amd(os:Os):laidMet prog Rows.variationKnownRow.laid ((Nt os Ca).forCall (λ_ _=>0) ⟨#[],Ca,[]⟩).memory:=
 laidMet_of_run' 8 aG aG 
def amf(os:Os){H:Type}(enc:TypeId×Value->H):∃ places,DataW.whole enc prog ((Nt os Ca).forCall (λ_ _=>0) ⟨#[],Ca,[]⟩).memory Tryz.f3.params.toList Rows.variationKnownSpec.vars false Ca.toList 8=some ([SX,SX,.lit (.int .u8 0),.lit (.int .u8 0)],[],places):=
 ⟨[],aG⟩
set_option maxRecDepth 100000 in
def amc(os:Os)(started:os.Started)(H:Type)(enc:TypeId×Value->H)(F:Stop.Interp):
  ReturnsInHanded {} Tryz.checked os 3 .any ((OpenSpec.ofChange Rows.variationKnownSpec).preRow enc prog Tryz.f3 Rows.variationKnownRow.domain false Rows.variationKnownRow.laid) (((OpenSpec.ofChange Rows.variationKnownSpec).at F).post enc prog Tryz.f3 false true false false):=by
 obtain⟨places,hx⟩:=amf os enc;refine returnsInHanded_of_row (C:=Tryz.checked) (s:=OpenSpec.ofChange Rows.variationKnownSpec) own started aG func3
  (witness_row_at (enc:=enc) (C:=Tryz.checked) false (Nt os Ca) Ca rfl aG aG aG 
   (OpenSpec.preRow_of_cond 8 hx aG (λk hk=>by cases hk) aG (amd os))) ?_
 intro W base args ds gs before lr hW _ _ _ hL _ _;exact ama H enc W base args ds gs before lr hW hL
set_option maxHeartbeats 100000000 in
def amb:joinedFacts prog 3 Tryz.f3 (OpenSpec.ofChange Rows.variationKnownSpec).bare Rows.variationKnownRow=true:=by
 unfold joinedFacts;simp only[bY]
 and_intros<;>decide +kernel
def amg:Rows.VariationKnownSaid:=
 OpenClaim.holds_of_cond 3 Tryz.f3 rfl rfl rfl rfl rfl rfl rfl ⟨rfl,rfl,rfl,rfl,rfl⟩ rfl rfl rfl rfl rfl aG func3 amb
  (dK aG) (by unfold Func.isWrapper;first|(rw[bn aP];kernel_rfl)|(rw[bl aP];exact⟨rfl,rfl⟩))
  (λos started H enc _ F=>by rw[OpenClaim.pre_eq_preRow];exact amc os started H enc F)
def ame (f:FuncId) (fn:Func) (hf:Tryz.pinned.checked.prog.funcNamed "flowpipe/flowpipelaw32.VariationKnown" = some f) (hfn:Tryz.pinned.checked.prog.funcs[f]? = some fn):
 false=Tryz.pinned.checked.prog.looks []/\∀ (j:Nat) t,fn.params[j]? = some t->Tryz.pinned.checked.prog.wantsStandIn t=false:=by
 obtain rfl:f=3:=anh ((show prog.funcNamed "flowpipe/flowpipelaw32.VariationKnown" = some 3 by kernel_rfl).symm.trans hf) |>.symm
 obtain rfl:fn=Tryz.f3:=(anh (func3.symm.trans hfn)).symm;refine⟨aG,λj t ht=>?_⟩;rw[Tryz.params3]at ht;have:t=23\/t=5:=by
  have:=eu ht;simp only[gQ,de,amY,gx]at this;rcases this with h|h|h|h<;>subst h<;>simp
 rcases this with rfl|rfl
 .exact (show prog.wantsStandIn 23=false by kernel_rfl)
 .exact (show prog.wantsStandIn 5=false by kernel_rfl)
theorem vknown_card:Rows.VariationKnownCardSaid:=
 Claim7.holds_tied_plain_at .later [] _ _ _ _ amg (λ_ h=>by cases h) aG (λ_ h=>by cases h) variationKnown_row_tie rfl ⟨rfl,rfl⟩ aG rfl ame (aeC adR rfl)
end Go.Proofs.YtbhhompalmdaiaaGreatDoor
