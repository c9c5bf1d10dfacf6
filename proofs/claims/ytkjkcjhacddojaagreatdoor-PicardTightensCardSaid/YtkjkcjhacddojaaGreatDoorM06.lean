/- The law PicardTightens is true for all arguments: Tighten returns the specified box. -/
import Derived.Test.YtkjkcjhacddojaaGreatDoorM05
set_option linter.unusedSimpArgs false
set_option linter.unusedVariables false
set_option linter.defProp false
set_option maxHeartbeats 4000000
open Go.Proofs.Tryz
namespace Go.Proofs.YtkjkcjhacddojaaGreatDoor
open Go.RowKit Fp Pu
def WR(d:Dy)(n p:Nat)(x:Nat):PS:=⟨35,true,[(10,.e (iP (((x+1):Nat):Int))),(9,.e (iP ((iy d p false x).2))),(8,.box 8 0),(6,.box 6 0),(3,.box 3 0),(1,.e (iP n)),(2,.e (iP p))],[(8,.cells 39 (jr ((iy d p false x).1))),(6,.cells 39 [(bP false),(.v (.slice none 0 0)),(iP 0)]),(3,.cells 39 (jr d))]⟩
def WS(d:Dy)(n N p:Nat)(x:Nat):PS:=⟨35,true,[(10,.e (iP (((x+1):Nat):Int))),(9,.e (iP ((iy d p false x).2))),(8,.box 8 0),(6,.box 6 0),(3,.box 3 0),(1,.e (iP n)),(2,.e (iP p))],[(8,.cells 39 (jr ((iy d p false x).1))),(6,.cells 39 [(bP false),(.v (.slice none 0 0)),(iP 0)]),(3,.cells 39 (jr d))]⟩
def WT(d:Dy)(n p:Nat)(x:Nat):PS:=⟨35,true,[(10,.e (iP (((x+1):Nat):Int))),(9,.e (iP ((iy d p true x).2))),(8,.box 8 0),(6,.box 6 0),(3,.box 3 0),(1,.e (iP n)),(2,.e (iP p))],[(8,.cells 39 (jr ((iy d p true x).1))),(6,.cells 39 [(bP false),(.v (.slice none 0 0)),(iP 0)]),(3,.cells 39 (jr d))]⟩
def WU(d:Dy)(n N p:Nat)(x:Nat):PS:=⟨35,true,[(10,.e (iP (((x+1):Nat):Int))),(9,.e (iP ((iy d p true x).2))),(8,.box 8 0),(6,.box 6 0),(3,.box 3 0),(1,.e (iP n)),(2,.e (iP p))],[(8,.cells 39 (jr ((iy d p true x).1))),(6,.cells 39 [(bP false),(.v (.slice none 0 0)),(iP 0)]),(3,.cells 39 (jr d))]⟩
noncomputable def PT(t:oZ)(xs:List Iv)(p:Nat)(x:Nat):PS:=⟨55,true,[(8,.e (iP x)),(7,.own 10),(3,.box 3 0),(2,.e (iP p))],[(10,.row true 46 ((iQ t.gX xs p x).length) 7 (kp (iQ t.gX xs p x))),(3,.cells 25 [(iP t.iq),(nJ t.gX),(nI t.ik)])]⟩
noncomputable def YA(t:oZ)(xs:List Iv)(p:Nat)(x:Nat):PS:=⟨79,true,[(11,.own 11),(13,.e (iP x)),(12,.own 24),(10,.e (ij (iQ t.gX xs p t.gX.length))),(4,.box 4 0),(2,.e (iP 0)),(3,.e (iP p))],[(11,.row true 46 x 7 (kp ((List.range x).map (λj_=>(iQ t.gX xs p t.gX.length).getD (t.ik.getD j_ 0) ig)))),(24,.qm true 26 46 t.ik.length 7 (λ_=>0) (λ_ _ _=>.any) .none),(4,.cells 25 [(iP t.iq),(nJ t.gX),(nI t.ik)])]⟩
noncomputable def YB(t:oZ)(xs:List Iv)(p:Nat)(x:Nat):PS:=⟨79,true,[(14,.e (iP x)),(11,.e (ij ((List.range t.ik.length).map (λj_=>(iQ t.gX xs p t.gX.length).getD (t.ik.getD j_ 0) ig)))),(12,.own 24),(10,.e (ij (iQ t.gX xs p t.gX.length))),(4,.box 4 0),(2,.e (iP 0)),(3,.e (iP p))],[(24,.qm true 26 46 t.ik.length 7 (λ_=>0) (λ_ _ _=>.any) .none),(4,.cells 25 [(iP t.iq),(nJ t.gX),(nI t.ik)])]⟩
def Ye(l:List Iv)(N:Nat)(i:Nat):PS:=⟨15,true,[(3,.e (iP i)),(0,.e (ij l))],[]⟩
def Yd(l:List Iv)(i:Nat):PS:=⟨15,true,[(3,.e (iP i)),(0,.e (ij l))],[]⟩
noncomputable def Ur(s:kV)(x:List Iv)(d:Dy)(b:List Iv)(p:Nat)(N:Nat)(i:Nat):PS:=⟨64,true,[(13,.own 13),(14,.e (iP i)),(11,.e (ij (iW s.tape (b++s.params) p))),(7,.box 7 0),(1,.e (ij x)),(4,.e (iP p))],[(13,.row true 46 i 7 (kp ((List.range i).map (λj_=>(jl (x.getD j_ ig) (iO (jW d) ((iW s.tape (b++s.params) p).getD j_ ig) p) p))))),(7,.cells 39 (jr d))]⟩
noncomputable def Us(s:kV)(x:List Iv)(d:Dy)(b:List Iv)(p:Nat)(i:Nat):PS:=⟨64,true,[(13,.own 13),(14,.e (iP i)),(11,.e (ij (iW s.tape (b++s.params) p))),(7,.box 7 0),(1,.e (ij x)),(4,.e (iP p))],[(13,.row true 46 i 7 (kp ((List.range i).map (λj_=>(jl (x.getD j_ ig) (iO (jW d) ((iW s.tape (b++s.params) p).getD j_ ig) p) p))))),(7,.cells 39 (jr d))]⟩
def QG(x:List Iv)(i:Nat):PS:=⟨31,true,[(3,.e (iP i)),(0,.e (ij x))],[]⟩
def UA(x y:List Iv)(i:Nat):PS:=⟨29,true,[(6,.e (iP i)),(5,.e (bP true)),(0,.e (ij x)),(1,.e (ij y))],[]⟩
def Uz(x y:List Iv)(N:Nat)(i:Nat):PS:=⟨29,true,[(6,.e (iP i)),(5,.e (bP (decide (i<=N)))),(0,.e (ij x)),(1,.e (ij y))],[]⟩
theorem JF(d:Dy)(p:Nat)(up:Bool)(hd:d.ic)(im:8<=p)(ia:p<=512):gW 372 [(gZ d),(iP p),(bP up)] (.ix [gZ (jh d p up),iP (jx d p up)]):=by
 have hl:=hd.gV;have he:=hd.exp;have hx:(gV d.m).length<=2900 /\ -200000<=d.e/\d.e<=200000:=⟨ae,ae,ae⟩
 exact tr true call372 func372 (chain [.c (Ga d d p af af ae ae),tB 14 (ag:((0:Int) != 0)=false),.c (Om d p up hx.1 hx.2.1 hx.2.2 ae ae)]<|.nil) ah 
theorem ajg(d:Dy)(n p:Nat)(hd:d.ic)(hn:1<=n)(kj:n<=16)(im:8<=p)(ia:p<=512)(iI:∀ x,x<n-1->(iy d p false x).2=0):gW 352 [(gZ d),(iP n),(iP p)] (.ix [gZ (iy d p false (n-1)).1,iP (iy d p false (n-1)).2]):=
 tr true call352 func352 (chain [.c (JF d p false af ae ae),.s (Sp.jy (WR d n p) 0 (n-1) ae (λx hx kn=>by
    have mw:=iI x ae;have hv:=uK d (show 1<=p by omega) (show p<=4096 by omega) false x;exact iC (chain [tT 19 ((((x+1):Nat):Int)<n) ae,tB 22 (by rw[mw];rfl:(((iy d p false x).2)==0)=true),.c (vU ((iy d p false x).1) d p false af af ae ae),
     iu ((((x+1):Nat):Int)+1) ae]<|.e (chain [.o 9 (.int (by rw[sE mw];rfl):PV.le (.e (iP (jx (kO ((iy d p false x).1) d) p false))) (.e (iP ((iy d p false (x+1)).2)))),.b 8 (.iS (by rw[sE mw];rfl):Bx.le (.cells 39 (jr (jh (kO ((iy d p false x).1) d) p false))) (.cells 39 (jr ((iy d p false (x+1)).1))))]<|.nil)) ah)
  (λhx=>by
    exact iC (chain [tF 19 (((((n-1)+1):Nat):Int)<n) ae]<|.nil) ah) ak:jv 3 f352 (WR d n p 0) (.exit 0) ⟨35,true,[(9,.e (iP ((iy d p false (n-1)).2))),(8,.box 8 0),(6,.box 6 0)],[(8,.cells 39 (jr ((iy d p false (n-1)).1))),(6,.cells 39 [(bP false),(.v (.slice none 0 0)),(iP 0)])]⟩) (chain [.o 10 (.int rfl:PV.le (.e (iP 1)) (.e (iP (((0+1):Nat):Int)))),.o 9 (.int rfl:PV.le (.e (iP (jx d p false))) (.e (iP ((iy d p false 0).2)))),.b 8 (.iS rfl:Bx.le (.cells 39 (jr (jh d p false))) (.cells 39 (jr ((iy d p false 0).1))))]<|.nil)]<|.nil) ah 
theorem ajh(d:Dy)(n N p:Nat)(hd:d.ic)(hn:1<=n)(kj:n<=16)(im:8<=p)(ia:p<=512)(mz:N<n-1)(iI:∀ x,x<N->(iy d p false x).2=0)(hN:(iy d p false N).2≠0):gW 352 [(gZ d),(iP n),(iP p)] (.ix [gZ (iy d p false N).1,iP (iy d p false N).2]):=
 tr true call352 func352 (chain [.c (JF d p false af ae ae),.s (Sp.jy (WS d n N p) 0 N ae (λx hx kn=>by
    have mw:=iI x ae;have hv:=uK d (show 1<=p by omega) (show p<=4096 by omega) false x;exact iC (chain [tT 19 ((((x+1):Nat):Int)<n) ae,tB 22 (by rw[mw];rfl:(((iy d p false x).2)==0)=true),.c (vU ((iy d p false x).1) d p false af af ae ae),
     iu ((((x+1):Nat):Int)+1) ae]<|.e (chain [.o 9 (.int (by rw[sE mw];rfl):PV.le (.e (iP (jx (kO ((iy d p false x).1) d) p false))) (.e (iP ((iy d p false (x+1)).2)))),.b 8 (.iS (by rw[sE mw];rfl):Bx.le (.cells 39 (jr (jh (kO ((iy d p false x).1) d) p false))) (.cells 39 (jr ((iy d p false (x+1)).1))))]<|.nil)) ah)
  (λhx=>by
    exact iC (chain [tT 19 ((((N+1):Nat):Int)<n) ae,tB 22 (by simpa using hN:(((iy d p false N).2)==0)=false)]<|.nil) ah) ak:jv 3 f352 (WS d n N p 0) (.exit 0) ⟨35,true,[(9,.e (iP ((iy d p false N).2))),(8,.box 8 0),(6,.box 6 0)],[(8,.cells 39 (jr ((iy d p false N).1))),(6,.cells 39 [(bP false),(.v (.slice none 0 0)),(iP 0)])]⟩) (chain [.o 10 (.int rfl:PV.le (.e (iP 1)) (.e (iP (((0+1):Nat):Int)))),.o 9 (.int rfl:PV.le (.e (iP (jx d p false))) (.e (iP ((iy d p false 0).2)))),.b 8 (.iS rfl:Bx.le (.cells 39 (jr (jh d p false))) (.cells 39 (jr ((iy d p false 0).1))))]<|.nil)]<|.nil) ah 
theorem DQ(d:Dy)(n p:Nat)(hd:d.ic)(hn:1<=n)(kj:n<=16)(im:8<=p)(ia:p<=512):gW 352 [(gZ d),(iP n),(iP p)] (.ix [gZ (iy d p false (n-1)).1,iP (iy d p false (n-1)).2]):=by
 by_cases h:∃ x,x<n-1/\decide ((iy d p false x).2≠0)=true
 .obtain ⟨N,h1,h2,h3⟩:=qx h
  have hN:(iy d p false N).2≠0:=ck h2;have:=ajh d n N p hd hn kj im ia h1 (λx hx=>by simpa using h3 x hx) hN;have e:=F6 d p false N hN (n-1-N);rw[show N+(n-1-N)=n-1 by omega]at e;rw[e];exact this
 .exact ajg d n p hd hn kj im ia λx hx=>bG λq=>h ⟨x,hx,aT q⟩
theorem aji(d:Dy)(n p:Nat)(hd:d.ic)(hn:1<=n)(kj:n<=16)(im:8<=p)(ia:p<=512)(iI:∀ x,x<n-1->(iy d p true x).2=0):gW 353 [(gZ d),(iP n),(iP p)] (.ix [gZ (iy d p true (n-1)).1,iP (iy d p true (n-1)).2]):=
 tr true call353 func353 (chain [.c (JF d p true af ae ae),.s (Sp.jy (WT d n p) 0 (n-1) ae (λx hx kn=>by
    have mw:=iI x ae;have hv:=uK d (show 1<=p by omega) (show p<=4096 by omega) true x;exact iC (chain [tT 19 ((((x+1):Nat):Int)<n) ae,tB 22 (by rw[mw];rfl:(((iy d p true x).2)==0)=true),.c (vU ((iy d p true x).1) d p true af af ae ae),
     iu ((((x+1):Nat):Int)+1) ae]<|.e (chain [.o 9 (.int (by rw[sE mw];rfl):PV.le (.e (iP (jx (kO ((iy d p true x).1) d) p true))) (.e (iP ((iy d p true (x+1)).2)))),.b 8 (.iS (by rw[sE mw];rfl):Bx.le (.cells 39 (jr (jh (kO ((iy d p true x).1) d) p true))) (.cells 39 (jr ((iy d p true (x+1)).1))))]<|.nil)) ah)
  (λhx=>by
    exact iC (chain [tF 19 (((((n-1)+1):Nat):Int)<n) ae]<|.nil) ah) ak:jv 3 f353 (WT d n p 0) (.exit 0) ⟨35,true,[(9,.e (iP ((iy d p true (n-1)).2))),(8,.box 8 0),(6,.box 6 0)],[(8,.cells 39 (jr ((iy d p true (n-1)).1))),(6,.cells 39 [(bP false),(.v (.slice none 0 0)),(iP 0)])]⟩) (chain [.o 10 (.int rfl:PV.le (.e (iP 1)) (.e (iP (((0+1):Nat):Int)))),.o 9 (.int rfl:PV.le (.e (iP (jx d p true))) (.e (iP ((iy d p true 0).2)))),.b 8 (.iS rfl:Bx.le (.cells 39 (jr (jh d p true))) (.cells 39 (jr ((iy d p true 0).1))))]<|.nil)]<|.nil) ah 
theorem ajj(d:Dy)(n N p:Nat)(hd:d.ic)(hn:1<=n)(kj:n<=16)(im:8<=p)(ia:p<=512)(mz:N<n-1)(iI:∀ x,x<N->(iy d p true x).2=0)(hN:(iy d p true N).2≠0):gW 353 [(gZ d),(iP n),(iP p)] (.ix [gZ (iy d p true N).1,iP (iy d p true N).2]):=
 tr true call353 func353 (chain [.c (JF d p true af ae ae),.s (Sp.jy (WU d n N p) 0 N ae (λx hx kn=>by
    have mw:=iI x ae;have hv:=uK d (show 1<=p by omega) (show p<=4096 by omega) true x;exact iC (chain [tT 19 ((((x+1):Nat):Int)<n) ae,tB 22 (by rw[mw];rfl:(((iy d p true x).2)==0)=true),.c (vU ((iy d p true x).1) d p true af af ae ae),
     iu ((((x+1):Nat):Int)+1) ae]<|.e (chain [.o 9 (.int (by rw[sE mw];rfl):PV.le (.e (iP (jx (kO ((iy d p true x).1) d) p true))) (.e (iP ((iy d p true (x+1)).2)))),.b 8 (.iS (by rw[sE mw];rfl):Bx.le (.cells 39 (jr (jh (kO ((iy d p true x).1) d) p true))) (.cells 39 (jr ((iy d p true (x+1)).1))))]<|.nil)) ah)
  (λhx=>by
    exact iC (chain [tT 19 ((((N+1):Nat):Int)<n) ae,tB 22 (by simpa using hN:(((iy d p true N).2)==0)=false)]<|.nil) ah) ak:jv 3 f353 (WU d n N p 0) (.exit 0) ⟨35,true,[(9,.e (iP ((iy d p true N).2))),(8,.box 8 0),(6,.box 6 0)],[(8,.cells 39 (jr ((iy d p true N).1))),(6,.cells 39 [(bP false),(.v (.slice none 0 0)),(iP 0)])]⟩) (chain [.o 10 (.int rfl:PV.le (.e (iP 1)) (.e (iP (((0+1):Nat):Int)))),.o 9 (.int rfl:PV.le (.e (iP (jx d p true))) (.e (iP ((iy d p true 0).2)))),.b 8 (.iS rfl:Bx.le (.cells 39 (jr (jh d p true))) (.cells 39 (jr ((iy d p true 0).1))))]<|.nil)]<|.nil) ah 
theorem DR(d:Dy)(n p:Nat)(hd:d.ic)(hn:1<=n)(kj:n<=16)(im:8<=p)(ia:p<=512):gW 353 [(gZ d),(iP n),(iP p)] (.ix [gZ (iy d p true (n-1)).1,iP (iy d p true (n-1)).2]):=by
 by_cases h:∃ x,x<n-1/\decide ((iy d p true x).2≠0)=true
 .obtain ⟨N,h1,h2,h3⟩:=qx h
  have hN:(iy d p true N).2≠0:=ck h2;have:=ajj d n N p hd hn kj im ia h1 (λx hx=>by simpa using h3 x hx) hN;have e:=F6 d p true N hN (n-1-N);rw[show N+(n-1-N)=n-1 by omega]at e;rw[e];exact this
 .exact aji d n p hd hn kj im ia λx hx=>bG λq=>h ⟨x,hx,aT q⟩
theorem ajk(x:Iv)(n p:Nat)(hx:x.ic)(ha:x.all=true)(hn:n<=16)(im:8<=p)(ia:p<=512):gW 297 [(ib x),(iP n),(iP p)] (ib (lP x n p)):=
 tr true call297 func297 (chain [.c (Ca (p:Int)),tB 13 (pn.2 ⟨ae,ae⟩:(lE (p:Int))=true),.c (uL x af),tB 17 (by rw[ha];rfl:(!x.all)=false),.c oN]<|rQ (ib ig) (ib (lP x n p)) (by unfold lP;rw[aS ha])) ah 
theorem ajo(x:Iv)(n p:Nat)(hx:x.ic)(ha:x.all=false)(h0:n=0)(im:8<=p)(ia:p<=512):gW 297 [(ib x),(iP n),(iP p)] (ib (lP x n p)):=
 tr true call297 func297 (chain [.c (Ca (p:Int)),tB 13 (pn.2 ⟨ae,ae⟩:(lE (p:Int))=true),.c (uL x af),tB 17 (by rw[ha];rfl:(!x.all)=true),tF 22 ((n:Int)<0) ae,tF 26 (16<(n:Int)) ae,tB 30 (r7 h0:((n:Int)==0)=true),.c (Xu _ ag:gW 112 [(iP 1)] _),.c (aje (canon false 1 0))]<|rQ (ib (mo (canon false 1 0))) (ib (lP x n p)) (by unfold lP;rw[aR (by rw[ha];decide),aS h0,NR])) ah 
theorem ajl(x:Iv)(n p:Nat)(hx:x.ic)(ha:x.all=false)(h0:n≠0)(hn:n<=16)(he:n%2=0)(im:8<=p)(ia:p<=512):gW 297 [(ib x),(iP n),(iP p)] (ib (lP x n p)):=by
 have va:=Cw hx;obtain⟨w1,w2⟩:=va.j9;exact tr true call297 func297 (chain [.c (Ca (p:Int)),tB 13 (pn.2 ⟨ae,ae⟩:(lE (p:Int))=true),.c (uL x af),tB 17 (by rw[ha];rfl:(!x.all)=true),tF 22 ((n:Int)<0) ae,tF 26 (16<(n:Int)) ae,tB 30 (nv h0:((n:Int)==0)=false),.a (ae:0<(2:Int)),.o 35 (.int (by rw[gL ae];omega):PV.le (.e (iP (Int.tmod (n:Int) 2))) (.e (iP (((n%2):Nat):Int)))),tB 36 (r7 he:((((n%2):Nat):Int)==0)=true),.c (ai9 x af),.c (DQ ((iZ x).lo) n p af ae ae ae ae),.c (vW _:gW 53 [(gZ ((iZ x).lo))] _)]<|.w ((Dy.iK ((iZ x).lo))<0)
  (λk1=>chain [tB 50 (aT k1),.c (sc _:gW 146 [(gZ ((iZ x).lo))] _),.c (DR (iF ((iZ x).lo)) n p (qA af) ae ae ae ae),.c (sc _:gW 146 [(gZ ((iy (iF ((iZ x).lo)) p true (n-1)).1))] _),.c (DR ((iZ x).hi) n p af ae ae ae ae),.c (vW _:gW 53 [(gZ ((iZ x).hi))] _)]<|.w ((Dy.iK ((iZ x).hi))<0)
   (λk2=>chain [tB 73 (aT k2),.c (sc _:gW 146 [(gZ ((iZ x).hi))] _),.c (DQ (iF ((iZ x).hi)) n p (qA af) ae ae ae ae),.c (sc _:gW 146 [(gZ ((iy (iF ((iZ x).hi)) p false (n-1)).1))] _),.c (zE (iF ((iy (iF ((iZ x).lo)) p true (n-1)).1)) (iF ((iy (iF ((iZ x).hi)) p false (n-1)).1)) ((iy (iF ((iZ x).lo)) p true (n-1)).2) ((iy (iF ((iZ x).hi)) p false (n-1)).2))]<|rQ (ib (kI (iF ((iy (iF ((iZ x).lo)) p true (n-1)).1)) ((iy (iF ((iZ x).lo)) p true (n-1)).2) (iF ((iy (iF ((iZ x).hi)) p false (n-1)).1)) ((iy (iF ((iZ x).hi)) p false (n-1)).2))) (ib (lP x n p)) (by unfold lP oi;rw[aR (by rw[ha];decide),aR h0];rw[aS he];unfold kv;(rw[aS k1,aS k2])<;>rfl))
   (λk2=>chain [tB 73 (aU k2),.c (zE (iF ((iy (iF ((iZ x).lo)) p true (n-1)).1)) ((iy ((iZ x).hi) p true (n-1)).1) ((iy (iF ((iZ x).lo)) p true (n-1)).2) ((iy ((iZ x).hi) p true (n-1)).2))]<|rQ (ib (kI (iF ((iy (iF ((iZ x).lo)) p true (n-1)).1)) ((iy (iF ((iZ x).lo)) p true (n-1)).2) ((iy ((iZ x).hi) p true (n-1)).1) ((iy ((iZ x).hi) p true (n-1)).2))) (ib (lP x n p)) (by unfold lP oi;rw[aR (by rw[ha];decide),aR h0];rw[aS he];unfold kv;(rw[aS k1,aR k2])<;>rfl)))
  (λk1=>chain [tB 50 (aU k1),.c (DR ((iZ x).hi) n p af ae ae ae ae),.c (vW _:gW 53 [(gZ ((iZ x).hi))] _)]<|.w ((Dy.iK ((iZ x).hi))<0)
   (λk2=>chain [tB 73 (aT k2),.c (sc _:gW 146 [(gZ ((iZ x).hi))] _),.c (DQ (iF ((iZ x).hi)) n p (qA af) ae ae ae ae),.c (sc _:gW 146 [(gZ ((iy (iF ((iZ x).hi)) p false (n-1)).1))] _),.c (zE ((iy ((iZ x).lo) p false (n-1)).1) (iF ((iy (iF ((iZ x).hi)) p false (n-1)).1)) ((iy ((iZ x).lo) p false (n-1)).2) ((iy (iF ((iZ x).hi)) p false (n-1)).2))]<|rQ (ib (kI ((iy ((iZ x).lo) p false (n-1)).1) ((iy ((iZ x).lo) p false (n-1)).2) (iF ((iy (iF ((iZ x).hi)) p false (n-1)).1)) ((iy (iF ((iZ x).hi)) p false (n-1)).2))) (ib (lP x n p)) (by unfold lP oi;rw[aR (by rw[ha];decide),aR h0];rw[aS he];unfold kv;(rw[aR k1,aS k2])<;>rfl))
   (λk2=>chain [tB 73 (aU k2),.c (zE ((iy ((iZ x).lo) p false (n-1)).1) ((iy ((iZ x).hi) p true (n-1)).1) ((iy ((iZ x).lo) p false (n-1)).2) ((iy ((iZ x).hi) p true (n-1)).2))]<|rQ (ib (kI ((iy ((iZ x).lo) p false (n-1)).1) ((iy ((iZ x).lo) p false (n-1)).2) ((iy ((iZ x).hi) p true (n-1)).1) ((iy ((iZ x).hi) p true (n-1)).2))) (ib (lP x n p)) (by unfold lP oi;rw[aR (by rw[ha];decide),aR h0];rw[aS he];unfold kv;(rw[aR k1,aR k2])<;>rfl)))) ah 
theorem ajm(x:Iv)(n p:Nat)(hx:x.ic)(ha:x.all=false)(h0:n≠0)(hn:n<=16)(he:¬n%2=0)(im:8<=p)(ia:p<=512):gW 297 [(ib x),(iP n),(iP p)] (ib (lP x n p)):=by
 have va:=hx;obtain⟨w1,w2⟩:=va.j9;exact tr true call297 func297 (chain [.c (Ca (p:Int)),tB 13 (pn.2 ⟨ae,ae⟩:(lE (p:Int))=true),.c (uL x af),tB 17 (by rw[ha];rfl:(!x.all)=true),tF 22 ((n:Int)<0) ae,tF 26 (16<(n:Int)) ae,tB 30 (nv h0:((n:Int)==0)=false),.a (ae:0<(2:Int)),.o 35 (.int (by rw[gL ae];omega):PV.le (.e (iP (Int.tmod (n:Int) 2))) (.e (iP (((n%2):Nat):Int)))),tB 36 (nv he:((((n%2):Nat):Int)==0)=false),.c (DQ x.lo n p af ae ae ae ae),.c (vW _:gW 53 [(gZ x.lo)] _)]<|.w ((Dy.iK x.lo)<0)
  (λk1=>chain [tB 50 (aT k1),.c (sc _:gW 146 [(gZ x.lo)] _),.c (DR (iF x.lo) n p (qA af) ae ae ae ae),.c (sc _:gW 146 [(gZ ((iy (iF x.lo) p true (n-1)).1))] _),.c (DR x.hi n p af ae ae ae ae),.c (vW _:gW 53 [(gZ x.hi)] _)]<|.w ((Dy.iK x.hi)<0)
   (λk2=>chain [tB 73 (aT k2),.c (sc _:gW 146 [(gZ x.hi)] _),.c (DQ (iF x.hi) n p (qA af) ae ae ae ae),.c (sc _:gW 146 [(gZ ((iy (iF x.hi) p false (n-1)).1))] _),.c (zE (iF ((iy (iF x.lo) p true (n-1)).1)) (iF ((iy (iF x.hi) p false (n-1)).1)) ((iy (iF x.lo) p true (n-1)).2) ((iy (iF x.hi) p false (n-1)).2))]<|rQ (ib (kI (iF ((iy (iF x.lo) p true (n-1)).1)) ((iy (iF x.lo) p true (n-1)).2) (iF ((iy (iF x.hi) p false (n-1)).1)) ((iy (iF x.hi) p false (n-1)).2))) (ib (lP x n p)) (by unfold lP oi;rw[aR (by rw[ha];decide),aR h0];rw[aR he];unfold kv;(rw[aS k1,aS k2])<;>rfl))
   (λk2=>chain [tB 73 (aU k2),.c (zE (iF ((iy (iF x.lo) p true (n-1)).1)) ((iy x.hi p true (n-1)).1) ((iy (iF x.lo) p true (n-1)).2) ((iy x.hi p true (n-1)).2))]<|rQ (ib (kI (iF ((iy (iF x.lo) p true (n-1)).1)) ((iy (iF x.lo) p true (n-1)).2) ((iy x.hi p true (n-1)).1) ((iy x.hi p true (n-1)).2))) (ib (lP x n p)) (by unfold lP oi;rw[aR (by rw[ha];decide),aR h0];rw[aR he];unfold kv;(rw[aS k1,aR k2])<;>rfl)))
  (λk1=>chain [tB 50 (aU k1),.c (DR x.hi n p af ae ae ae ae),.c (vW _:gW 53 [(gZ x.hi)] _)]<|.w ((Dy.iK x.hi)<0)
   (λk2=>chain [tB 73 (aT k2),.c (sc _:gW 146 [(gZ x.hi)] _),.c (DQ (iF x.hi) n p (qA af) ae ae ae ae),.c (sc _:gW 146 [(gZ ((iy (iF x.hi) p false (n-1)).1))] _),.c (zE ((iy x.lo p false (n-1)).1) (iF ((iy (iF x.hi) p false (n-1)).1)) ((iy x.lo p false (n-1)).2) ((iy (iF x.hi) p false (n-1)).2))]<|rQ (ib (kI ((iy x.lo p false (n-1)).1) ((iy x.lo p false (n-1)).2) (iF ((iy (iF x.hi) p false (n-1)).1)) ((iy (iF x.hi) p false (n-1)).2))) (ib (lP x n p)) (by unfold lP oi;rw[aR (by rw[ha];decide),aR h0];rw[aR he];unfold kv;(rw[aR k1,aS k2])<;>rfl))
   (λk2=>chain [tB 73 (aU k2),.c (zE ((iy x.lo p false (n-1)).1) ((iy x.hi p true (n-1)).1) ((iy x.lo p false (n-1)).2) ((iy x.hi p true (n-1)).2))]<|rQ (ib (kI ((iy x.lo p false (n-1)).1) ((iy x.lo p false (n-1)).2) ((iy x.hi p true (n-1)).1) ((iy x.hi p true (n-1)).2))) (ib (lP x n p)) (by unfold lP oi;rw[aR (by rw[ha];decide),aR h0];rw[aR he];unfold kv;(rw[aR k1,aR k2])<;>rfl)))) ah 
theorem ajn(x:Iv)(n p:Nat)(hx:x.ic)(hn:n<=16)(im:8<=p)(ia:p<=512):gW 297 [ib x,iP (n:Int),iP (p:Int)] (ib (lP x n p)):=by
 cases ha:x.all with
 |true=>exact ajk x n p hx ha hn im ia
 |false=>
  by_cases h0:n=0
  .exact ajo x n p hx ha h0 im ia
  .by_cases he:n%2=0
   .exact ajl x n p hx ha h0 hn he im ia
   .exact ajm x n p hx ha h0 hn he im ia
theorem ZX(o:mO)(x y:Iv)(p:Nat)(hx:x.ic)(hy:y.ic)(r1:3<=o.kind)(r2:o.kind<=8)(r3:o.n<=16)(im:8<=p)(ia:p<=512):gW 250 [(iP o.kind),(iP o.n),(ib x),(ib y),(iP p)] (ib (kF o x y p)):=
 tr true call250 func250 (.w ((o.kind:Int)=3)
  (λk1=>chain [tB 13 (aM k1),.c (Gb x y p af af ae ae)]<|rQ (ib (jl x y p)) (ib (kF o x y p)) (by unfold kF;simp[show o.kind=3 from ae]))
  (λk1=>chain [tB 13 (aK k1)]<|.w ((o.kind:Int)=4)
   (λk2=>chain [tB 19 (aM k2),.c (ajf x y p af af ae ae)]<|rQ (ib (Cm x y p)) (ib (kF o x y p)) (by unfold kF;simp[show ¬o.kind=3 from ae,show o.kind=4 from ae]))
   (λk2=>chain [tB 19 (aK k2)]<|.w ((o.kind:Int)=5)
    (λk3=>chain [tB 25 (aM k3),.c (JG x y p af af ae ae)]<|rQ (ib (iO x y p)) (ib (kF o x y p)) (by unfold kF;simp[show ¬o.kind=3 from ae,show ¬o.kind=4 from ae,show o.kind=5 from ae]))
    (λk3=>chain [tB 25 (aK k3)]<|.w ((o.kind:Int)=6)
     (λk4=>chain [tB 31 (aM k4),.c (aja x y p af af ae ae)]<|rQ (ib (jT x y p)) (ib (kF o x y p)) (by unfold kF;simp[show ¬o.kind=3 from ae,show ¬o.kind=4 from ae,show ¬o.kind=5 from ae,show o.kind=6 from ae]))
     (λk4=>chain [tB 31 (aK k4)]<|.w ((o.kind:Int)=7)
      (λk5=>chain [tB 37 (aM k5),.c (WN x af)]<|rQ (ib (pV x)) (ib (kF o x y p)) (by unfold kF;simp[show ¬o.kind=3 from ae,show ¬o.kind=4 from ae,show ¬o.kind=5 from ae,show ¬o.kind=6 from ae,show o.kind=7 from ae]))
      (λk5=>chain [tB 37 (aK k5)]<|.w ((o.kind:Int)=8)
       (λk6=>chain [tB 41 (aM k6),.c (ajn _ _ _ af ae ae ae:gW 297 [(ib x),(iP o.n),(iP p)] _)]<|rQ (ib (lP x o.n p)) (ib (kF o x y p)) (by unfold kF;simp[show ¬o.kind=3 from ae,show ¬o.kind=4 from ae,show ¬o.kind=5 from ae,show ¬o.kind=6 from ae,show ¬o.kind=7 from ae,show o.kind=8 from ae]))
       (λk6=>.x ae))))))) ah 
theorem ZQ{o:mO}(h:¬o.kind<=6)(x y z:Iv)(p:Nat):kF o x y p=kF o x z p:=by
 unfold kF;have h3:¬o.kind=3:= ae ;have h4:¬o.kind=4:= ae ;have h5:¬o.kind=5:= ae ;have h6:¬o.kind=6:= ae ;rw[aR h3,aR h4,aR h5,aR h6,aR h3,aR h4,aR h5,aR h6]
theorem ZS{o:mO}(h:o.kind≠1)(l:List Iv)(p:Nat):rA o l p=kF o (l.getD o.a ig) (l.getD o.b ig) p:=by
 unfold rA G9;rw[aR h];by_cases h6:o.kind<=6
 .rw [aT h6];rfl
 .rw [aU h6];exact ZQ h6 _ _ _ _
theorem nB.aaE{o:mO}{m:Nat}(h:nB o m)(hm:1<=m):o.b<m:=by
 have:=h.b;split at this<;>omega
theorem af3{a q:List Iv}:E.le (.sl true (0+a.length+q.length) 7 λi j=>if i<0+a.length then(λi_ j_=>if i_<0 then(λi_ j_=>([]:List E).getD (i_*7+j_) (.v (.bool false))) i_ j_ else(E.ml (ij a)) (i_-0) j_) i j else(E.ml (ij q)) (i-(0+a.length)) j) (ij (a++q)):=by
 have e:ij (a++q) = .sl true (0+a.length+q.length) 7 (kp (a++q)):=by unfold ij;rw[ch,bX]
 rw[e];refine .sl λi j hi hj=>⟨.iS ?_,Dt _ _ hj⟩
 rw[bX];by_cases h:i<a.length
 .rw [aS h]
  show(ja (a.getD i ig)).getD j .any=(ja ((a++q).getD i ig)).getD j .any;congr 2;simp[aW,dL h]
 .rw [aR h]
  show(ja (q.getD (i-a.length) ig)).getD j .any=(ja ((a++q).getD i ig)).getD j .any;congr 2;simp[aW,ej (show a.length<=i by omega)]
theorem ZM(t:oZ)(xs:List Iv)(p:Nat)(h:Ab t)(hr:rz t)(h1:1<=xs.length)(hx:xs.length=t.iq)(hv:mB xs)(im:8<=p)(ia:p<=512):gW 174 [(yh t),(ij xs),(iP p)] (ij (iQ t.gX xs p t.gX.length)):=by
 have h8:=h.iq;have BF:=h.gX;exact tr true call174 func174 (chain [.bo,.a (ae:(0+xs.length)*88<=140737488355328),.s (Sp.jy (PT t xs p) 0 t.gX.length ae (λx hx kn=>by
    have iG:=h.op x ae;have uB:=Cs t.gX hv (show 1<=p by omega) (show p<=4096 by omega) x;have MA:=Cr t.gX xs p x;have w1:=uB ((t.gX.getD x iT)).a;by_cases oz:((t.gX.getD x iT)).kind=1
    .have rh:((t.gX.getD x iT)).kind=1:=oz
     obtain⟨o1,o2,o3,su⟩:=iG.num rh;have w9:rA (t.gX.getD x iT) (iQ t.gX xs p x) p=(nR (t.gX.getD x iT).cn (t.gX.getD x iT).cd p):=by unfold rA;rw[aS rh]
     have uq:=tU (nR (t.gX.getD x iT).cn (t.gX.getD x iT).cd p);exact iC (chain [tT 17 ((x:Int)<t.gX.length) ae,iX ((x:Int)) (t.gX.length) ae,tB 27 (aM ae:(((t.gX.getD x iT).kind:Int)==1)=true),.c (ac3 _ _ _ af ae ae:gW 249 [(.agg [(iP ((t.gX.getD x iT).cn)),(iP ((t.gX.getD x iT).cd))]),(iP p)] _),.o 33 (.e (mH _):PV.le (.e (.sl true 1 7 λi_ j_=>(ja (nR ((t.gX.getD x iT).cn) ((t.gX.getD x iT).cd) p)).getD (i_*7+j_) (.v (.bool false)))) (.e (ij [(nR ((t.gX.getD x iT).cn) ((t.gX.getD x iT).cd) p)]))),.a (ae:((iQ t.gX xs p x).length+[(nR ((t.gX.getD x iT).cn) ((t.gX.getD x iT).cd) p)].length)*88<=140737488355328),iu ((x:Int)+1) ae]<|.e (chain [.b 10 (GC rfl rfl w9:Bx.le (.row true 46 ((iQ t.gX xs p x).length+[(nR ((t.gX.getD x iT).cn) ((t.gX.getD x iT).cd) p)].length) 7 (λi_ j_=>if i_<(iQ t.gX xs p x).length then(kp (iQ t.gX xs p x)) i_ j_ else(E.ml (ij [(nR ((t.gX.getD x iT).cn) ((t.gX.getD x iT).cd) p)])) (i_-(iQ t.gX xs p x).length) j_)) (.row true 46 ((iQ t.gX xs p (x+1)).length) 7 (kp (iQ t.gX xs p (x+1)))))]<|.nil)) ah 
    .have yT:((t.gX.getD x iT)).kind≠1:=oz
     have w9:rA (t.gX.getD x iT) (iQ t.gX xs p x) p=(kF (t.gX.getD x iT) ((iQ t.gX xs p x).getD ((t.gX.getD x iT).a) ig) ((iQ t.gX xs p x).getD ((t.gX.getD x iT).b) ig) p):=ZS yT _ _;have hk3:=iG.k3.resolve_left yT;have ui:=hr x;have oa:=iG.PI yT;have ob:=iG.aaE ae;have w2:=uB ((t.gX.getD x iT)).b;have o8:=V9 iG;have uq:=tU (kF (t.gX.getD x iT) ((iQ t.gX xs p x).getD ((t.gX.getD x iT).a) ig) ((iQ t.gX xs p x).getD ((t.gX.getD x iT).b) ig) p);exact iC (chain [tT 17 ((x:Int)<t.gX.length) ae,iX ((x:Int)) (t.gX.length) ae,tB 27 (aK ae:(((t.gX.getD x iT).kind:Int)==1)=false),
      iX (((t.gX.getD x iT).a:Int)) ((iQ t.gX xs p x).length) ae,.a (ae:(t.gX.getD x iT).a<(iQ t.gX xs p x).length),iX (((t.gX.getD x iT).b:Int)) ((iQ t.gX xs p x).length) ae,.a (ae:(t.gX.getD x iT).b<(iQ t.gX xs p x).length),.c (ZX (t.gX.getD x iT) _ _ _ w1 w2 ae ae ae ae ae:gW 250 [(iP ((t.gX.getD x iT).kind:Int)),(iP ((t.gX.getD x iT).n:Int)),(ib ((iQ t.gX xs p x).getD (t.gX.getD x iT).a ig)),(ib ((iQ t.gX xs p x).getD (t.gX.getD x iT).b ig)),(iP p)] _),.o 52 (.e (mH _):PV.le (.e (.sl true 1 7 λi_ j_=>(ja (kF (t.gX.getD x iT) ((iQ t.gX xs p x).getD (t.gX.getD x iT).a ig) ((iQ t.gX xs p x).getD (t.gX.getD x iT).b ig) p)).getD (i_*7+j_) (.v (.bool false)))) (.e (ij [(kF (t.gX.getD x iT) ((iQ t.gX xs p x).getD (t.gX.getD x iT).a ig) ((iQ t.gX xs p x).getD (t.gX.getD x iT).b ig) p)]))),.a (ae:((iQ t.gX xs p x).length+[(kF (t.gX.getD x iT) ((iQ t.gX xs p x).getD (t.gX.getD x iT).a ig) ((iQ t.gX xs p x).getD (t.gX.getD x iT).b ig) p)].length)*88<=140737488355328),
      iu ((x:Int)+1) ae]<|.e (chain [.b 10 (GC rfl rfl w9:Bx.le (.row true 46 ((iQ t.gX xs p x).length+[(kF (t.gX.getD x iT) ((iQ t.gX xs p x).getD (t.gX.getD x iT).a ig) ((iQ t.gX xs p x).getD (t.gX.getD x iT).b ig) p)].length) 7 (λi_ j_=>if i_<(iQ t.gX xs p x).length then(kp (iQ t.gX xs p x)) i_ j_ else(E.ml (ij [(kF (t.gX.getD x iT) ((iQ t.gX xs p x).getD (t.gX.getD x iT).a ig) ((iQ t.gX xs p x).getD (t.gX.getD x iT).b ig) p)])) (i_-(iQ t.gX xs p x).length) j_)) (.row true 46 ((iQ t.gX xs p (x+1)).length) 7 (kp (iQ t.gX xs p (x+1)))))]<|.nil)) ah)
  (λhx=>by
    exact iC (chain [tF 17 ((t.gX.length:Int)<t.gX.length) ae,.z 10]<|.e (chain [.o 7 (.e (AI aj):PV.le (.e (.sl true ((iQ t.gX xs p t.gX.length).length) 7 (kp (iQ t.gX xs p t.gX.length)))) (.e (ij (iQ t.gX xs p t.gX.length))))]<|.nil)) ah) ak:jv 3 f174 (PT t xs p 0) (.exit 0) ⟨55,true,[(7,.e (ij (iQ t.gX xs p t.gX.length)))],[]⟩) (chain [.b 10 (QI rfl λi j hi hj=>⟨rfl,Dt _ _ hj⟩:Bx.le (.row true 46 (0+xs.length) 7 (λi_ j_=>if i_<0 then(λi_ j_=>([]:List E).getD (i_*7+j_) (.v (.bool false))) i_ j_ else(E.ml (ij xs)) (i_-0) j_)) (.row true 46 ((iQ t.gX xs p 0).length) 7 (kp (iQ t.gX xs p 0))))]<|.nil)]<|.nil) ah 
theorem Uy(s:kV)(b:List Iv)(h1:b.length<=400)(h2:s.params.length<=400):gW 101 [(jj s),(ij b)] (ij (b++s.params)):=
 tr true call101 func101 (chain [.bo,.a (ae:(0+b.length)*88<=140737488355328),.a (ae:((0+b.length)+s.params.length)*88<=140737488355328)]<|rR (ij (b++s.params)) (af3:E.le (.sl true ((0+b.length)+s.params.length) 7 (λi_ j_=>if i_<(0+b.length)then(λi_ j_=>if i_<0 then(λi_ j_=>([]:List E).getD (i_*7+j_) (.v (.bool false))) i_ j_ else(E.ml (ij b)) (i_-0) j_) i_ j_ else(E.ml (ij s.params)) (i_-(0+b.length)) j_)) (ij (b++s.params)))) ah 
theorem YC(t:oZ)(xs:List Iv)(p:Nat)(h:Ab t)(hr:rz t)(h1:1<=xs.length)(hx:xs.length=t.iq)(hv:mB xs)(im:8<=p)(ia:p<=512):gW 100 [(yh t),(ij xs),(iP 0),(iP p)] (.ix [ij (iW t xs p),qh (List.replicate t.ik.length [])]):=by
 have h8:=h.iq;have BF:=h.gX;have mZ:=h.ik;exact tr true call100 func100 (chain [.c (ZM t xs p h hr h1 hx hv ae ae),.a (ae:0<=((t.ik.length:Int):Int)/\((t.ik.length:Int):Int)<=((t.ik.length:Int):Int)),.a (ae:((24:Nat):Int)*(t.ik.length:Int)<=281474976710656/\((t.ik.length:Int):Int)<=9223372036854775807),.y 11 11 true 46 7 (kp ((List.range 0).map (λj_=>(iQ t.gX xs p t.gX.length).getD (t.ik.getD j_ 0) ig))),.s (Sp.jy (YA t xs p) 0 t.ik.length ae (λx hx kn=>by
    have hot:=h.out x ae;have MA:=Cr t.gX xs p t.gX.length;have uq:=tU ((iQ t.gX xs p t.gX.length).getD (t.ik.getD x 0) ig);exact iC (chain [tT 29 ((x:Int)<t.ik.length) ae,iX ((x:Int)) (t.ik.length) ae,iX ((t.ik.getD x 0:Int)) ((iQ t.gX xs p t.gX.length).length) ae,.o 41 (.e (mH _):PV.le (.e (.sl true 1 7 λi_ j_=>(ja ((iQ t.gX xs p t.gX.length).getD (t.ik.getD x 0) ig)).getD (i_*7+j_) (.v (.bool false)))) (.e (ij [((iQ t.gX xs p t.gX.length).getD (t.ik.getD x 0) ig)]))),.a (ae:(x+[((iQ t.gX xs p t.gX.length).getD (t.ik.getD x 0) ig)].length)*88<=140737488355328),iu ((x:Int)+1) ae]<|.e (chain [.b 11 (ze rfl rfl rfl:Bx.le (.row true 46 (x+[((iQ t.gX xs p t.gX.length).getD (t.ik.getD x 0) ig)].length) 7 (λi_ j_=>if i_<x then(kp ((List.range x).map (λj_=>(iQ t.gX xs p t.gX.length).getD (t.ik.getD j_ 0) ig))) i_ j_ else(E.ml (ij [((iQ t.gX xs p t.gX.length).getD (t.ik.getD x 0) ig)])) (i_-x) j_)) (.row true 46 (x+1) 7 (kp ((List.range (x+1)).map (λj_=>(iQ t.gX xs p t.gX.length).getD (t.ik.getD j_ 0) ig)))))]<|.nil)) ah)
  (λhx=>by
    exact iC (chain [tF 29 ((t.ik.length:Int)<t.ik.length) ae,.z 11]<|.e (chain [.o 11 (.e (AI aj):PV.le (.e (.sl true t.ik.length 7 (kp ((List.range t.ik.length).map (λj_=>(iQ t.gX xs p t.gX.length).getD (t.ik.getD j_ 0) ig))))) (.e (ij ((List.range t.ik.length).map (λj_=>(iQ t.gX xs p t.gX.length).getD (t.ik.getD j_ 0) ig)))))]<|.nil)) ah) ak:jv 5 f100 (YA t xs p 0) (.exit 0) ⟨79,true,[(11,.e (ij ((List.range t.ik.length).map (λj_=>(iQ t.gX xs p t.gX.length).getD (t.ik.getD j_ 0) ig)))),(12,.own 24),(10,.e (ij (iQ t.gX xs p t.gX.length))),(4,.box 4 0),(2,.e (iP 0)),(3,.e (iP p))],[(24,.qm true 26 46 t.ik.length 7 (λ_=>0) (λ_ _ _=>.any) .none),(4,.cells 25 [(iP t.iq),(nJ t.gX),(nI t.ik)])]⟩) .nil,.s (Sp.jy (YB t xs p) 0 0 ae (λx hx kn=>by
    exact absurd kn (bk _))
  (λhx=>by
    exact iC (chain [tB 45 (ag:(decide ((0:Int)<0))=false)]<|.nil) ah) ak:jv 9 f100 (YB t xs p 0) (.exit 2) ⟨79,true,[(11,.e (ij ((List.range t.ik.length).map (λj_=>(iQ t.gX xs p t.gX.length).getD (t.ik.getD j_ 0) ig)))),(12,.own 24)],[(24,.qm true 26 46 t.ik.length 7 (λ_=>0) (λ_ _ _=>.any) .none)]⟩) .nil]<|rR (.ix [ij (iW t xs p),qh (List.replicate t.ik.length [])]) (.ix (.cons (.iS (by rw[Si])) (.cons XH .nil)):E.le (.ix [(ij ((List.range t.ik.length).map (λj_=>(iQ t.gX xs p t.gX.length).getD (t.ik.getD j_ 0) ig))),(.sl true t.ik.length 1 λk_ _=>.sl true ((λ_=>0) k_) 7 ((λ_ _ _=>.any) k_))]) (.ix [ij (iW t xs p),qh (List.replicate t.ik.length [])]))) ah 
theorem alo(l:List Iv)(hl:l.length<=1000)(N:Nat)(mz:N<l.length)(iI:∀ i,i<N->(l.getD i ig).all=false)(hN:(l.getD N ig).all=true):gW 102 [(ij l)] (bP true):=
 tr true call102 func102 (chain [.s (Sp.jy (Ye l N) 0 N ae (λi hi pN=>by
    exact iC (chain [tT 7 ((i:Int)<l.length) ae,iX ((i:Int)) (l.length) ae,tB 14 (iI i ae:(l.getD i ig).all=false),iu ((i:Int)+1) ae]<|.nil) ah)
  (λhi=>by
    exact iC (chain [tT 7 ((N:Int)<l.length) ae,iX ((N:Int)) (l.length) ae,tB 14 (hN:(l.getD N ig).all=true)]<|.nil) ah) ak:jv 2 f102 (Ye l N 0) .ret ⟨15,true,[(2,.e (bP true))],[]⟩) .nil]<|.nil) ah 
theorem aln(l:List Iv)(hl:l.length<=1000)(iI:∀ i,i<l.length->(l.getD i ig).all=false):gW 102 [(ij l)] (bP false):=
 tr true call102 func102 (chain [.s (Sp.jy (Yd l) 0 l.length ae (λi hi pN=>by
    exact iC (chain [tT 7 ((i:Int)<l.length) ae,iX ((i:Int)) (l.length) ae,tB 14 (iI i ae:(l.getD i ig).all=false),iu ((i:Int)+1) ae]<|.nil) ah)
  (λhi=>by
    exact iC (chain [tF 7 ((l.length:Int)<l.length) ae]<|.nil) ah) ak:jv 2 f102 (Yd l 0) (.exit 0) ⟨15,true,[],[]⟩) .nil]<|.nil) ah 
theorem Yf(l:List Iv)(hl:l.length<=1000):gW 102 [ij l] (bP (mV l)):=by
 cases h:mV l with
 |false=>exact aln l hl λi hi=>by simpa using List.any_eq_false.1 h i (bI.2 hi)
 |true=>
  unfold mV at h;rw[dk]at h;obtain⟨i,hi,hb⟩:=h;obtain⟨N,h1,h2,h3⟩:=qx (p:=λi=>(l.getD i ig).all) ⟨i,bI.1 hi,hb⟩;exact alo l hl N h1 h3 h2
theorem Sf(s:kV)(b:List Iv)(p:Nat)(iV:gW 31 [jj s,ij b] (bP true))(im:8<=p)(ia:p<=512):gW 99 [(jj s),(ij b),(iP p)] (iP 0):=
 tr true call99 func99 (chain [.c (iV:gW 31 [(jj s),(ij b)] _),.c (Oz _:gW 135 [(iP p)] _),tB 12 (pn.2 ⟨ae,ae⟩:(lE (p:Int))=true)]<|.nil) ah 
theorem adZ(s:kV)(b:List Iv)(p:Nat)(h:mI s)(hr:rz s.tape)(hb:ke s.iA b)(iV:gW 31 [jj s,ij b] (bP true))(im:8<=p)(ia:p<=512)(hn:mV (iW s.tape (b++s.params) p)=true):gW 118 [(jj s),(ij b),(iP p)] (.ix [.v (.slice none 0 0),iP 11]):=by
 have s4:=h.s4;have p4:=h.p4;have um:=hb.len;have mZ:=h.tape.ik;have xJ:=xA s.tape (b++s.params) p;obtain⟨f1,f2,f3,f4⟩:=yE h hb;exact tr true call118 func118 (chain [.c (Sf _ _ _ iV ae ae:gW 99 [(jj s),(ij b),(iP p)] _),tB 16 (ag:((0:Int) != 0)=false),.c (Uy s b ae ae),.c (YC s.tape (b++s.params) p f1 hr f2 f3 f4 ae ae),.c (Yf _ ae:gW 102 [(ij (iW s.tape (b++s.params) p))] _),tB 29 (hn:(mV (iW s.tape (b++s.params) p))=true)]<|.nil) ah 
theorem Sh(s:kV)(b:List Iv)(p:Nat)(h:mI s)(hr:rz s.tape)(hb:ke s.iA b)(iV:gW 31 [jj s,ij b] (bP true))(im:8<=p)(ia:p<=512)(hn:mV (iW s.tape (b++s.params) p)=false):gW 118 [(jj s),(ij b),(iP p)] (.ix [ij (iW s.tape (b++s.params) p),iP 0]):=by
 have s4:=h.s4;have p4:=h.p4;have um:=hb.len;have mZ:=h.tape.ik;have xJ:=xA s.tape (b++s.params) p;obtain⟨f1,f2,f3,f4⟩:=yE h hb;exact tr true call118 func118 (chain [.c (Sf _ _ _ iV ae ae:gW 99 [(jj s),(ij b),(iP p)] _),tB 16 (ag:((0:Int) != 0)=false),.c (Uy s b ae ae),.c (YC s.tape (b++s.params) p f1 hr f2 f3 f4 ae ae),.c (Yf _ ae:gW 102 [(ij (iW s.tape (b++s.params) p))] _),tB 29 (hn:(mV (iW s.tape (b++s.params) p))=false)]<|.nil) ah 
theorem afM(s:kV)(x:List Iv)(d:Dy)(b:List Iv)(p:Nat)(h:mI s)(hx:ke s.iA x)(hd:d.ic)(h0:0<d.iK)(hb:ke s.iA b)(im:8<=p)(ia:p<=512)(hr:rz s.tape)(oq:gW 117 [jj s,ij x,gZ d,iP (p:Int)] (bP true))(iV:gW 31 [jj s,ij b] (bP true))(hn:mV (iW s.tape (b++s.params) p)=true):gW 68 [(jj s),(ij x),(gZ d),(ij b),(iP p)] (.v (.slice none 0 0)):=by
 have s4:=h.s4;exact tr true call68 func68 (chain [.c (oq:gW 117 [(jj s),(ij x),(gZ d),(iP p)] _),.c (iV:gW 31 [(jj s),(ij b)] _),.c (adZ _ _ _ h hr hb iV im ia hn:gW 118 [(jj s),(ij b),(iP p)] _),tB 36 (ag:((11:Int) != 0)=true)]<|.nil) ah 
theorem afN(s:kV)(x:List Iv)(d:Dy)(b:List Iv)(p:Nat)(h:mI s)(hx:ke s.iA x)(hd:d.ic)(h0:0<d.iK)(hb:ke s.iA b)(im:8<=p)(ia:p<=512)(hr:rz s.tape)(oq:gW 117 [jj s,ij x,gZ d,iP (p:Int)] (bP true))(iV:gW 31 [jj s,ij b] (bP true))(hn:mV (iW s.tape (b++s.params) p)=false)(N:Nat)(mz:N<x.length)(iI:∀ i,i<N->(jl (x.getD i ig) (iO (jW d) ((iW s.tape (b++s.params) p).getD i ig) p) p).all=false)(hN:(jl (x.getD N ig) (iO (jW d) ((iW s.tape (b++s.params) p).getD N ig) p) p).all=true):gW 68 [(jj s),(ij x),(gZ d),(ij b),(iP p)] (.v (.slice none 0 0)):=by
 have s4:=h.s4;have vC:=hx.len;have mZ:=h.ik;have xJ:=xA s.tape (b++s.params) p;obtain⟨f1,f2,f3,f4⟩:=yE h hb;have fv:=Al s.tape f4 (show 1<=p by omega) (show p<=4096 by omega);have hq:0<d.q:=(oD d).1.1 h0;have MN:=Cl hd (bw hq);exact tr true call68 func68 (chain [.c (oq:gW 117 [(jj s),(ij x),(gZ d),(iP p)] _),.c (iV:gW 31 [(jj s),(ij b)] _),.c (Sh _ _ _ h hr hb iV im ia hn:gW 118 [(jj s),(ij b),(iP p)] _),tB 36 (ag:((0:Int) != 0)=false),.y 13 13 true 46 7 (kp ((List.range 0).map (λj_=>(jl (x.getD j_ ig) (iO (jW d) ((iW s.tape (b++s.params) p).getD j_ ig) p) p)))),.s (Sp.jy (Ur s x d b p N) 0 N ae (λi hi pN=>by
    have w1:=(hx.ok i ae).1;have w2:=fv i;have w3:=qj (jW d) ((iW s.tape (b++s.params) p).getD i ig) (show 1<=p by omega) (show p<=4096 by omega);have uq:=tU (jl (x.getD i ig) (iO (jW d) ((iW s.tape (b++s.params) p).getD i ig) p) p);exact iC (chain [tT 40 ((i:Int)<x.length) ae,iX ((i:Int)) (x.length) ae,.o 48 (.e (D5 d):PV.le (.e (.agg ([(bP false),(.v (.slice none 0 0)),(iP 0)]++jr d++[(bP false)]))) (.e (ib (jW d)))),iX ((i:Int)) ((iW s.tape (b++s.params) p).length) ae,.c (JG (jW d) ((iW s.tape (b++s.params) p).getD i ig) p af af ae ae),.c (Gb (x.getD i ig) (iO (jW d) ((iW s.tape (b++s.params) p).getD i ig) p) p af (qj _ _ ae ae) ae ae),tB 58 (iI i ae:(jl (x.getD i ig) (iO (jW d) ((iW s.tape (b++s.params) p).getD i ig) p) p).all=false),.o 61 (.e (mH _):PV.le (.e (.sl true 1 7 λi_ j_=>(ja (jl (x.getD i ig) (iO (jW d) ((iW s.tape (b++s.params) p).getD i ig) p) p)).getD (i_*7+j_) (.v (.bool false)))) (.e (ij [(jl (x.getD i ig) (iO (jW d) ((iW s.tape (b++s.params) p).getD i ig) p) p)]))),.a (ae:(i+[(jl (x.getD i ig) (iO (jW d) ((iW s.tape (b++s.params) p).getD i ig) p) p)].length)*88<=140737488355328),iu ((i:Int)+1) ae]<|.e (chain [.b 13 (ze rfl rfl rfl:Bx.le (.row true 46 (i+[(jl (x.getD i ig) (iO (jW d) ((iW s.tape (b++s.params) p).getD i ig) p) p)].length) 7 (λi_ j_=>if i_<i then(kp ((List.range i).map (λj_=>(jl (x.getD j_ ig) (iO (jW d) ((iW s.tape (b++s.params) p).getD j_ ig) p) p)))) i_ j_ else(E.ml (ij [(jl (x.getD i ig) (iO (jW d) ((iW s.tape (b++s.params) p).getD i ig) p) p)])) (i_-i) j_)) (.row true 46 (i+1) 7 (kp ((List.range (i+1)).map (λj_=>(jl (x.getD j_ ig) (iO (jW d) ((iW s.tape (b++s.params) p).getD j_ ig) p) p))))))]<|.nil)) ah)
  (λhi=>by
    have w1:=(hx.ok N ae).1;have w2:=fv N;have w3:=qj (jW d) ((iW s.tape (b++s.params) p).getD N ig) (show 1<=p by omega) (show p<=4096 by omega);exact iC (chain [tT 40 ((N:Int)<x.length) ae,iX ((N:Int)) (x.length) ae,.o 48 (.e (D5 d):PV.le (.e (.agg ([(bP false),(.v (.slice none 0 0)),(iP 0)]++jr d++[(bP false)]))) (.e (ib (jW d)))),iX ((N:Int)) ((iW s.tape (b++s.params) p).length) ae,.c (JG (jW d) ((iW s.tape (b++s.params) p).getD N ig) p af af ae ae),.c (Gb (x.getD N ig) (iO (jW d) ((iW s.tape (b++s.params) p).getD N ig) p) p af (qj _ _ ae ae) ae ae),tB 58 (hN:(jl (x.getD N ig) (iO (jW d) ((iW s.tape (b++s.params) p).getD N ig) p) p).all=true)]<|.nil) ah) ak:jv 8 Tryz.f68 (Ur s x d b p N 0) .ret ⟨64,true,[(10,.e (.v (.slice none 0 0)))],[]⟩) .nil]<|.nil) ah 
theorem afO(s:kV)(x:List Iv)(d:Dy)(b:List Iv)(p:Nat)(h:mI s)(hx:ke s.iA x)(hd:d.ic)(h0:0<d.iK)(hb:ke s.iA b)(im:8<=p)(ia:p<=512)(hr:rz s.tape)(oq:gW 117 [jj s,ij x,gZ d,iP (p:Int)] (bP true))(iV:gW 31 [jj s,ij b] (bP true))(hn:mV (iW s.tape (b++s.params) p)=false)(iI:∀ i,i<x.length->(jl (x.getD i ig) (iO (jW d) ((iW s.tape (b++s.params) p).getD i ig) p) p).all=false):gW 68 [(jj s),(ij x),(gZ d),(ij b),(iP p)] (ij ((List.range x.length).map (λj_=>(jl (x.getD j_ ig) (iO (jW d) ((iW s.tape (b++s.params) p).getD j_ ig) p) p)))):=by
 have s4:=h.s4;have vC:=hx.len;have mZ:=h.ik;have xJ:=xA s.tape (b++s.params) p;obtain⟨f1,f2,f3,f4⟩:=yE h hb;have fv:=Al s.tape f4 (show 1<=p by omega) (show p<=4096 by omega);have hq:0<d.q:=(oD d).1.1 h0;have MN:=Cl hd (bw hq);exact tr true call68 func68 (chain [.c (oq:gW 117 [(jj s),(ij x),(gZ d),(iP p)] _),.c (iV:gW 31 [(jj s),(ij b)] _),.c (Sh _ _ _ h hr hb iV im ia hn:gW 118 [(jj s),(ij b),(iP p)] _),tB 36 (ag:((0:Int) != 0)=false),.y 13 13 true 46 7 (kp ((List.range 0).map (λj_=>(jl (x.getD j_ ig) (iO (jW d) ((iW s.tape (b++s.params) p).getD j_ ig) p) p)))),.s (Sp.jy (Us s x d b p) 0 x.length ae (λi hi pN=>by
    have w1:=(hx.ok i ae).1;have w2:=fv i;have w3:=qj (jW d) ((iW s.tape (b++s.params) p).getD i ig) (show 1<=p by omega) (show p<=4096 by omega);have uq:=tU (jl (x.getD i ig) (iO (jW d) ((iW s.tape (b++s.params) p).getD i ig) p) p);exact iC (chain [tT 40 ((i:Int)<x.length) ae,iX ((i:Int)) (x.length) ae,.o 48 (.e (D5 d):PV.le (.e (.agg ([(bP false),(.v (.slice none 0 0)),(iP 0)]++jr d++[(bP false)]))) (.e (ib (jW d)))),iX ((i:Int)) ((iW s.tape (b++s.params) p).length) ae,.c (JG (jW d) ((iW s.tape (b++s.params) p).getD i ig) p af af ae ae),.c (Gb (x.getD i ig) (iO (jW d) ((iW s.tape (b++s.params) p).getD i ig) p) p af (qj _ _ ae ae) ae ae),tB 58 (iI i ae:(jl (x.getD i ig) (iO (jW d) ((iW s.tape (b++s.params) p).getD i ig) p) p).all=false),.o 61 (.e (mH _):PV.le (.e (.sl true 1 7 λi_ j_=>(ja (jl (x.getD i ig) (iO (jW d) ((iW s.tape (b++s.params) p).getD i ig) p) p)).getD (i_*7+j_) (.v (.bool false)))) (.e (ij [(jl (x.getD i ig) (iO (jW d) ((iW s.tape (b++s.params) p).getD i ig) p) p)]))),.a (ae:(i+[(jl (x.getD i ig) (iO (jW d) ((iW s.tape (b++s.params) p).getD i ig) p) p)].length)*88<=140737488355328),iu ((i:Int)+1) ae]<|.e (chain [.b 13 (ze rfl rfl rfl:Bx.le (.row true 46 (i+[(jl (x.getD i ig) (iO (jW d) ((iW s.tape (b++s.params) p).getD i ig) p) p)].length) 7 (λi_ j_=>if i_<i then(kp ((List.range i).map (λj_=>(jl (x.getD j_ ig) (iO (jW d) ((iW s.tape (b++s.params) p).getD j_ ig) p) p)))) i_ j_ else(E.ml (ij [(jl (x.getD i ig) (iO (jW d) ((iW s.tape (b++s.params) p).getD i ig) p) p)])) (i_-i) j_)) (.row true 46 (i+1) 7 (kp ((List.range (i+1)).map (λj_=>(jl (x.getD j_ ig) (iO (jW d) ((iW s.tape (b++s.params) p).getD j_ ig) p) p))))))]<|.nil)) ah)
  (λhi=>by
    exact iC (chain [tF 40 ((x.length:Int)<x.length) ae,.z 13]<|.e (chain [.o 13 (.e (AI aj):PV.le (.e (.sl true x.length 7 (kp ((List.range x.length).map (λj_=>(jl (x.getD j_ ig) (iO (jW d) ((iW s.tape (b++s.params) p).getD j_ ig) p) p)))))) (.e (ij ((List.range x.length).map (λj_=>(jl (x.getD j_ ig) (iO (jW d) ((iW s.tape (b++s.params) p).getD j_ ig) p) p))))))]<|.nil)) ah) ak:jv 8 Tryz.f68 (Us s x d b p 0) (.exit 0) ⟨64,true,[(13,.e (ij ((List.range x.length).map (λj_=>(jl (x.getD j_ ig) (iO (jW d) ((iW s.tape (b++s.params) p).getD j_ ig) p) p)))))],[]⟩) .nil]<|.nil) ah 
theorem M3(s:kV)(x:List Iv)(d:Dy)(b:List Iv)(p:Nat)(h:mI s)(hx:ke s.iA x)(hd:d.ic)(h0:0<d.iK)(hb:ke s.iA b)(im:8<=p)(ia:p<=512)(hr:rz s.tape)(oq:gW 117 [jj s,ij x,gZ d,iP (p:Int)] (bP true))(iV:gW 31 [jj s,ij b] (bP true)):gW 68 [(jj s),(ij x),(gZ d),(ij b),(iP p)] (ij (lf s x d b p)):=by
 unfold lf;cases hn:mV (iW s.tape (b++s.params) p)with
 |true=>rw[aS rfl];exact(afM s x d b p h hx hd h0 hb im ia hr oq iV hn).jZ (.nil _ _ _)
 |false=>
  rw[aR ag];cases ha:mV (sY x (iW s.tape (b++s.params) p) d p)with
  |true=>
   rw[aS rfl];unfold mV at ha;rw[dk,tN]at ha;obtain⟨i,hi,mn⟩:=ha;obtain⟨N,h1,h2,h3⟩:=qx (p:=λi=>((sY x (iW s.tape (b++s.params) p) d p).getD i ig).all) ⟨i,bI.1 hi,mn⟩;refine(afN s x d b p h hx hd h0 hb im ia hr oq iV hn N h1 (λi hi=>?_) ?_).jZ (.nil _ _ _)
   .have:=h3 i hi;rw[xQ (show i<x.length by omega)]at this;exact this
   .rw [xQ h1]at h2;exact h2
  |false=>
   rw[aR ag];refine afO s x d b p h hx hd h0 hb im ia hr oq iV hn λi hi=>?_
   unfold mV at ha;rw[dM,tN]at ha;have:=ha i (bI.2 hi);rw[xQ hi]at this;exact aO this
theorem On(x y:Iv)(hx:x.ic)(hy:y.ic):gW 192 [(ib x),(ib y)] (bP (pg x y)):=by
 obtain⟨w1,w2⟩:=hx.j9;obtain⟨w3,w4⟩:=hy.j9;exact tr true call192 func192 (chain [.c (DP x af),.c (DP y af)]<|.w (x.all=true)
  (λk1=>chain [tB 15 (k1),.c (DP x af),.c (DP y af)]<|rQ (bP y.all) (bP (pg x y)) (nk (by rw[cS];unfold pg;simp[k1])))
  (λk1=>chain [tB 15 (aO k1)]<|.w (y.all=true)
   (λk2=>chain [tB 28 (k2)]<|rQ (bP true) (bP (pg x y)) (nk (by rw[cS];unfold pg;simp[k1,k2])))
   (λk2=>chain [tB 28 (aO k2),.c (Cb y.lo x.lo (Dy.ic.rE af) (Dy.ic.rE af))]<|.w ((jo y.lo x.lo)<=0)
    (λk3=>chain [tB 35 (aT k3),.c (Cb x.hi y.hi (Dy.ic.rE af) (Dy.ic.rE af))]<|rQ (bP (decide ((jo x.hi y.hi)<=0))) (bP (pg x y)) (nk (by rw[cS];unfold pg;simp[k1,k2,k3])))
    (λk3=>chain [tB 35 (aU k3)]<|rQ (bP false) (bP (pg x y)) (nk (by rw[cS];unfold pg;simp[k1,k2,k3])))))) ah 
theorem QH(x:List Iv)(x1:1<=x.length)(x8:x.length<=8)(hx:oQ x):gW 16 [(ij x)] (bP true):=
 tr true call16 func16 (chain [tF 6 ((x.length:Int)<1) ae,tF 10 (8<(x.length:Int)) ae,.s (Sp.jy (QG x) 0 x.length ae (λi hi pN=>by
    have Uh:=hx i ae;exact iC (chain [tT 15 ((i:Int)<x.length) ae,iX ((i:Int)) (x.length) ae,tB 22 (Uh.2:(x.getD i ig).all=false),iX ((i:Int)) (x.length) ae,.c (DP (x.getD i ig) Uh.1),iu ((i:Int)+1) ae]<|.nil) ah)
  (λhi=>by
    exact iC (chain [tF 15 ((x.length:Int)<x.length) ae]<|.nil) ah) ak:jv 4 Tryz.f16 (QG x 0) (.exit 0) ⟨31,true,[],[]⟩) .nil]<|.nil) ah 
theorem Wd(x y:List Iv)(x1:1<=x.length)(x8:x.length<=8)(hl:x.length=y.length)(hx:oQ x)(hy:oQ y):gW 191 [(ij x),(ij y)] (bP true):=
 tr true call191 func191 (chain [.c (QH x ae ae hx),.c (QH y ae ae hy),tB 16 (DF hl:((x.length:Int)==y.length)=true)]<|.nil) ah 
theorem af5(x y:List Iv)(x1:1<=x.length)(x8:x.length<=8)(hl:x.length=y.length)(hx:oQ x)(hy:oQ y)(iI:∀ i,i<x.length->(pg (x.getD i ig) (y.getD i ig))=true):gW 116 [(ij x),(ij y)] (bP true):=
 tr true call116 func116 (chain [.c (Wd x y x1 x8 hl hx hy),.s (Sp.jy (UA x y) 0 x.length ae (λi hi pN=>by
    have v1:=(hx i ae).1;have v2:=(hy i ae).1;exact iC (chain [tT 15 ((i:Int)<x.length) ae,iX ((i:Int)) (x.length) ae,iX ((i:Int)) (y.length) ae,.c (On (x.getD i ig) (y.getD i ig) v1 v2),.o 27 (.bool (iI i ae):PV.le (.e (bP (pg (x.getD i ig) (y.getD i ig)))) (.e (bP true))),iu ((i:Int)+1) ae]<|.nil) ah)
  (λhi=>by
    exact iC (chain [tF 15 ((x.length:Int)<x.length) ae]<|.nil) ah) ak:jv 3 f116 (UA x y 0) (.exit 0) ⟨29,true,[(5,.e (bP true))],[]⟩) .nil]<|.nil) ah 
theorem af4(x y:List Iv)(x1:1<=x.length)(x8:x.length<=8)(hl:x.length=y.length)(hx:oQ x)(hy:oQ y)(N:Nat)(mz:N<x.length)(iI:∀ i,i<N->(pg (x.getD i ig) (y.getD i ig))=true)(hN:(pg (x.getD N ig) (y.getD N ig))=false):gW 116 [(ij x),(ij y)] (bP false):=
 tr true call116 func116 (chain [.c (Wd x y x1 x8 hl hx hy),.s (Sp.jy (Uz x y N) 0 (N+1) ae (λi hi pN=>by
    have v1:=(hx i ae).1;have v2:=(hy i ae).1;by_cases hq:i<N
    .exact iC (chain [tT 10 (i<=N) ae,tT 15 ((i:Int)<x.length) ae,iX ((i:Int)) (x.length) ae,iX ((i:Int)) (y.length) ae,.c (On (x.getD i ig) (y.getD i ig) v1 v2),iu ((i:Int)+1) ae]<|.e (chain [.o 5 (.bool ((iI i ae).trans (aT ae).symm):PV.le (.e (bP (pg (x.getD i ig) (y.getD i ig)))) (.e (bP (decide ((i+1)<=N)))))]<|.nil)) ah 
    .exact iC (chain [tT 10 (i<=N) ae,tT 15 ((i:Int)<x.length) ae,iX ((i:Int)) (x.length) ae,iX ((i:Int)) (y.length) ae,.c (On (x.getD i ig) (y.getD i ig) v1 v2),iu ((i:Int)+1) ae]<|.e (chain [.o 5 (.bool ((show(pg (x.getD i ig) (y.getD i ig))=false by rw[show i=N by omega];exact hN).trans (aU ae).symm):PV.le (.e (bP (pg (x.getD i ig) (y.getD i ig)))) (.e (bP (decide ((i+1)<=N)))))]<|.nil)) ah)
  (λhi=>by
    exact iC (chain [tF 10 ((N+1)<=N) ae]<|.nil) ah) ak:jv 3 f116 (Uz x y N 0) (.exit 0) ⟨29,true,[(5,.e (bP (decide ((N+1)<=N))))],[]⟩) (chain [.o 5 (.bool (aT (bN _)).symm:PV.le (.e (bP true)) (.e (bP (decide (0<=N)))))]<|.nil)]<|rQ (bP (decide ((N+1)<=N))) (bP false) (nk (aU ae))) ah 
theorem UB(x y:List Iv)(x1:1<=x.length)(x8:x.length<=8)(hl:x.length=y.length)(hx:oQ x)(hy:oQ y):gW 116 [(ij x),(ij y)] (bP (ng x y)):=by
 by_cases c:ng x y=true
 .rw [c]
  exact af5 x y x1 x8 hl hx hy λi hi=>bH.1 c i (bI.2 hi)
 .rw [aO c]
  obtain⟨N,n1,n2,n3⟩:=yC c;exact af4 x y x1 x8 hl hx hy N n1 (λk hk=>by simpa using n3 k hk) (by simpa using n2)
theorem afv(s:kV)(x:List Iv)(d:Dy)(b:List Iv)(p:Nat)(h:mI s)(hx:ke s.iA x)(hd:d.ic)(h0:0<d.iK)(hb:ke s.iA b)(im:8<=p)(ia:p<=512)(hr:rz s.tape)(oq:gW 117 [jj s,ij x,gZ d,iP (p:Int)] (bP true))(iV:gW 31 [jj s,ij b] (bP true))(hi:(lf s x d b p)=[]):gW 67 [(jj s),(ij x),(gZ d),(ij b),(iP p)] (bP false):=
 tr true call67 func67 (chain [.c (M3 s x d b p h hx hd h0 hb im ia hr oq iV:gW 68 [(jj s),(ij x),(gZ d),(ij b),(iP p)] _),tB 20 (by rw[hi];rfl:(decide (0<((lf s x d b p).length:Int)))=false)]<|.nil) ah 
theorem afx(s:kV)(x:List Iv)(d:Dy)(b:List Iv)(p:Nat)(h:mI s)(hx:ke s.iA x)(hd:d.ic)(h0:0<d.iK)(hb:ke s.iA b)(im:8<=p)(ia:p<=512)(hr:rz s.tape)(oq:gW 117 [jj s,ij x,gZ d,iP (p:Int)] (bP true))(iV:gW 31 [jj s,ij b] (bP true))(hi:(lf s x d b p)≠[]):gW 67 [(jj s),(ij x),(gZ d),(ij b),(iP p)] (bP (ng x b&&ng (lf s x d b p) b)):=by
 have s1:=h.s1;have s4:=h.s4;obtain⟨x1,x4,xo⟩:=Af hx s1 s4;obtain⟨b1,b4,bo⟩:=Af hb s1 s4;have vC:=hx.len;have um:=hb.len;have Da:=Fq hx (show 1<=p by omega) (show p<=4096 by omega) hi;obtain⟨i1,i4,io⟩:=Af Da s1 s4;have hli:=Da.len;exact tr true call67 func67 (chain [.c (M3 s x d b p h hx hd h0 hb im ia hr oq iV:gW 68 [(jj s),(ij x),(gZ d),(ij b),(iP p)] _),tT 20 (0<((lf s x d b p).length:Int)) ae,.c (UB x b ae ae ae hx.ok hb.ok)]<|.w (ng x b=true)
  (λk1=>chain [tB 24 (k1),.c (UB (lf s x d b p) b ae ae ae Da.ok hb.ok)]<|rQ (bP (ng (lf s x d b p) b)) (bP (ng x b&&ng (lf s x d b p) b)) (by simp[k1]))
  (λk1=>chain [tB 24 (aO k1)]<|rQ (bP false) (bP (ng x b&&ng (lf s x d b p) b)) (by simp[k1]))) ah 
theorem afw(s:kV)(x:List Iv)(d:Dy)(b:List Iv)(p:Nat)(h:mI s)(hx:ke s.iA x)(hd:d.ic)(h0:0<d.iK)(hb:ke s.iA b)(im:8<=p)(ia:p<=512)(hr:rz s.tape)(oq:gW 117 [jj s,ij x,gZ d,iP (p:Int)] (bP true))(iV:gW 31 [jj s,ij b] (bP true)):gW 67 [(jj s),(ij x),(gZ d),(ij b),(iP p)] (bP (pP s x d b p)):=by
 unfold pP;by_cases hi:(lf s x d b p)=[]
 .have:=afv s x d b p h hx hd h0 hb im ia hr oq iV hi
  rwa[hi,show(!([]:List Iv).isEmpty&&(ng x b&&ng [] b))=false from rfl]
 .have:=afx s x d b p h hx hd h0 hb im ia hr oq iV hi
  have e:((lf s x d b p)).isEmpty=false:=by
   cases q:(lf s x d b p)with
   |nil=>exact absurd q hi
   |cons _ _=>rfl
  rwa[e,dz,dF]
theorem Pu.tc.pc{P:Program}{K:World->Prop}{f:FuncId}{args:List E}{nl:Bool}{T:TypeId}{n sz:Nat}{el:Nat->Nat->E}(h:tc P K f args nl T n sz el):PC P K f args (.sl nl n sz el):=
 ⟨h.call,λw B vs hK hB hr=>(h.run w B vs hK hB hr).mono λe w' ⟨v,he,hb,g,oh,As,EV⟩=>⟨v,he,hb,by
  rcases oh with⟨rfl,rfl⟩|⟨b,c,cur,rfl,hg,pB,nN,nO,lq,ko⟩
  .exact .sl nl 0 sz el none 0 g (aV _) ag (λ_=>rfl) (λi j hi=>absurd hi (bk i)) (λi j hi=>absurd hi (bk i)) (λi j hi=>absurd hi (bk i)) (λi j hi=>absurd hi (bk i))
  .have nn:=As b rfl
   refine .sl nl n sz el _ c g pB (by unfold maxLen at nN;omega) (λh=>by cases h) (λi j hi hj=>⟨(lq i j hi hj).2,λhn=>ko hn _ (dh (lq i j hi hj).1)⟩) (λi j hi hj=>(EV i j hi hj).2)
    (λi j hi hj=>⟨b,0,rfl,λhB'=>absurd (hB b hB').1 ae,nn.2,?_⟩) (λi j hi hj=>(EV i j hi hj).1.rq (λ_ h=>.inl h) (λ_ h=>h))
   rw[bX];simp only[World.cell?,hg];simpa using(lq i j hi hj).1⟩⟩
noncomputable def lL(s:kV)(x:List Iv)(d:Dy)(b:List Iv)(p:Nat):Nat->List Iv
 | 0=>b
 |k+1=>lf s x d (lL s x d b p k) p
section
variable {s:kV} {x b:List Iv} {d:Dy} {p n:Nat}
theorem D9(hx:ke n x)(hp:1<=p)(ia:p<=4096)(hb:ke n b):∀ k,(∀ j,j<k->lL s x d b p (j+1)≠[])->ke n (lL s x d b p k)
 | 0,_=>hb
 |k+1,h=>Fq hx hp ia (h k (an3 k))
theorem af6{a b c:List Iv}(hl:a.length=b.length)(h:ng a b=true)(k:ng b c=true):ng a c=true:=
 Fu λi hi=>(M6 h hi).trans (M6 k ae)
theorem Ka(hr:rz s.tape)(hx:ke n x)(hb:ke n b)(n1:1<=n)(vp:mB s.params)(hd:d.ic)(h0:0<=d.q)(hp:1<=p)(ia:p<=4096)(hh:pP s x d b p=true):
 ∀ k,ke n (lL s x d b p k)/\pP s x d (lL s x d b p k) p=true/\ng (lL s x d b p k) b=true
 | 0=>⟨hb,hh,Fu λi _=>Sub.refl _⟩
 |k+1=>by
  obtain⟨h1,h2,h3⟩:=Ka hr hx hb n1 vp hd h0 hp ia hh k;obtain⟨k1,k2,k3⟩:=MG.1 h2;have h4:=Fq hx hp ia k1;exact⟨h4,afy hr hx h1 n1 vp hd h0 hp ia h2,af6 (show(lf s x d (lL s x d b p k) p).length=(lL s x d b p k).length by rw[h4.len,h1.len]) k3 h3⟩
theorem al7(hr:rz s.tape)(hx:ke n x)(hb:ke n b)(n1:1<=n)(vp:mB s.params)(hd:d.ic)(h0:0<=d.q)(hp:1<=p)(ia:p<=4096)(hh:pP s x d b p=true)(k:Nat):lL s x d b p (k+1)≠[]:=
 (MG.1 (Ka hr hx hb n1 vp hd h0 hp ia hh k).2.1).1
theorem ano(hx:ke n x)(hd:d.ic)(h0:0<=d.q)(vb:mB (b++s.params))(hp:1<=p)(ia:p<=4096)(jJ:lf s x d b p≠[]):ng x (lf s x d b p)=true:=by
 rw[Uv jJ];exact Fu λi _=>Zl hx hd h0 (Al s.tape vb hp ia) hp ia i
end
noncomputable def YH(s:kV)(x:List Iv)(d:Dy)(b:List Iv)(n p:Nat)(k:Nat):PS:=⟨45,true,[(32,.e (iP k)),(31,.e (iP n)),(13,.e (ij (lL s x d b p k))),(8,.box 8 0),(6,.box 6 0),(1,.e (ij x)),(5,.e (iP p))],[(8,.cells 39 (jr d)),(6,.cells 28 [(iP s.tape.iq),(nJ s.tape.gX),(nI s.tape.ik),(iP s.iA),(ij s.params)])]⟩
noncomputable def YI(s:kV)(x:List Iv)(d:Dy)(b:List Iv)(n p:Nat)(N:Nat)(k:Nat):PS:=⟨45,true,[(32,.e (iP k)),(31,.e (iP n)),(13,.e (ij (lL s x d b p k))),(8,.box 8 0),(6,.box 6 0),(1,.e (ij x)),(5,.e (iP p))],[(8,.cells 39 (jr d)),(6,.cells 28 [(iP s.tape.iq),(nJ s.tape.gX),(nI s.tape.ik),(iP s.iA),(ij s.params)])]⟩
noncomputable def YG(s:kV)(x:List Iv)(d:Dy)(b:List Iv)(n p:Nat)(k:Nat):PS:=⟨41,true,[(13,.e (iP k)),(8,.box 8 0),(6,.box 6 0),(1,.e (ij x)),(3,.e (ij (lL s x d b p k))),(4,.e (iP n)),(5,.e (iP p))],[(8,.cells 39 (jr d)),(6,.cells 28 [(iP s.tape.iq),(nJ s.tape.gX),(nI s.tape.ik),(iP s.iA),(ij s.params)])]⟩
theorem YJ(s:jt)(g:s.jg)(sm:s.mj)(x:List RI)(gx:∀ i,(x.getD i ju).jg)(lv:x.length<=1000)(d:RD)(gd:d.jg)(p:Int)(b:List RI)(gb:∀ i,(b.getD i ju).jg)(nn:b.length<=1000)(n:Int)(lH:n<0\/100<n\/ur s x d b p=false):gW 22 [(lg s),(j8 x),(mf d),(j8 b),(iP n),(iP p)] (.v (.slice none 0 0)):=
 tr true call22 func22 (.w (n<0)
  (λk1=>chain [tB 15 (aT k1)]<|.nil)
  (λk1=>chain [tB 15 (aU k1)]<|.w (100<n)
   (λk2=>chain [tB 18 (aT k2)]<|.nil)
   (λk2=>chain [tB 18 (aU k2),.c (MF s g sm x gx lv d gd p b gb nn)]<|.w (ur s x d b p=true)
    (λk3=>.x (by rcases lH with q|q|q<;>first|contradiction|omega|(rw[q]at k3;cases k3)))
    (λk3=>chain [tB 26 (aO k3)]<|.nil)))) ah 
theorem Q3(r:List Iv)(h0:0<r.length)(hl:r.length<=1000):gW 63 [ij r] (ij r):=(Qa r h0 hl).pc
theorem Pc(s:kV)(x:List Iv)(d:Dy)(b:List Iv)(n p:Nat)(h:mI s)(hx:ke s.iA x)(hd:d.ic)(h0:0<d.iK)(hb:ke s.iA b)(im:8<=p)(ia:p<=512)(hn:n<=100)(hh:pP s x d b p=true)(jJ:∀ k,k<n->(lL s x d b p (k+1))≠[]):gW 22 [(jj s),(ij x),(gZ d),(ij b),(iP n),(iP p)] (ij (lL s x d b p n)):=by
 have s1:=h.s1;have s4:=h.s4;have um:=hb.len;have ss:p<=4096:= ae ;exact tr true call22 func22 (chain [tF 15 ((n:Int)<0) ae,tF 18 (100<(n:Int)) ae,.c (by rw[<-hh];exact wV s x d b p h hx hd h0 hb im ia:gW 23 [(jj s),(ij x),(gZ d),(ij b),(iP p)] (bP true)),.c (Q3 _ ae ae:gW 63 [(ij b)] _),.s (Sp.jy (YH s x d b n p) 0 n ae (λk hk Az=>by
    have uh:=D9 hx (show 1<=p by omega) ss hb k (λj hj=>jJ j ae);exact iC (chain [tT 33 ((k:Int)<n) ae,.c (Fs s x d (lL s x d b p k) p h hx hd h0 uh im ia),tB 42 (UX (jJ k ae):(((lf s x d (lL s x d b p k) p).length:Int)==0)=false),
     iu ((k:Int)+1) ae]<|.e (chain [.o 13 (.e (.iS rfl):PV.le (.e (ij (lf s x d (lL s x d b p k) p))) (.e (ij (lL s x d b p (k+1)))))]<|.nil)) ah)
  (λhk=>by
    exact iC (chain [tF 33 ((n:Int)<n) ae]<|.nil) ah) ak:jv 5 Tryz.f22 (YH s x d b n p 0) (.exit 0) ⟨45,true,[(13,.e (ij (lL s x d b p n)))],[]⟩) (chain [.o 13 (.e (.iS rfl):PV.le (.e (ij b)) (.e (ij (lL s x d b p 0))))]<|.nil)]<|.nil) ah 
theorem amg(s:kV)(x:List Iv)(d:Dy)(b:List Iv)(n p:Nat)(h:mI s)(hx:ke s.iA x)(hd:d.ic)(h0:0<d.iK)(hb:ke s.iA b)(im:8<=p)(ia:p<=512)(hn:n<=100)(hh:pP s x d b p=true)(N:Nat)(mz:N<n)(jJ:∀ k,k<N->(lL s x d b p (k+1))≠[])(hN:(lL s x d b p (N+1))=[]):gW 22 [(jj s),(ij x),(gZ d),(ij b),(iP n),(iP p)] (.v (.slice none 0 0)):=by
 have s1:=h.s1;have s4:=h.s4;have um:=hb.len;have ss:p<=4096:= ae ;exact tr true call22 func22 (chain [tF 15 ((n:Int)<0) ae,tF 18 (100<(n:Int)) ae,.c (by rw[<-hh];exact wV s x d b p h hx hd h0 hb im ia:gW 23 [(jj s),(ij x),(gZ d),(ij b),(iP p)] (bP true)),.c (Q3 _ ae ae:gW 63 [(ij b)] _),.s (Sp.jy (YI s x d b n p N) 0 N ae (λk hk Az=>by
    have uh:=D9 hx (show 1<=p by omega) ss hb k (λj hj=>jJ j ae);exact iC (chain [tT 33 ((k:Int)<n) ae,.c (Fs s x d (lL s x d b p k) p h hx hd h0 uh im ia),tB 42 (UX (jJ k ae):(((lf s x d (lL s x d b p k) p).length:Int)==0)=false),
     iu ((k:Int)+1) ae]<|.e (chain [.o 13 (.e (.iS rfl):PV.le (.e (ij (lf s x d (lL s x d b p k) p))) (.e (ij (lL s x d b p (k+1)))))]<|.nil)) ah)
  (λhk=>by
    have uh:=D9 hx (show 1<=p by omega) ss hb N (λj hj=>jJ j ae);exact iC (chain [tT 33 ((N:Int)<n) ae,.c (Fs s x d (lL s x d b p N) p h hx hd h0 uh im ia),tB 42 (by rw[show lf s x d (lL s x d b p N) p=[]from hN];rfl:(((lf s x d (lL s x d b p N) p).length:Int)==0)=true)]<|.nil) ah) ak:jv 5 Tryz.f22 (YI s x d b n p N 0) .ret ⟨45,true,[(12,.e (.v (.slice none 0 0)))],[]⟩) (chain [.o 13 (.e (.iS rfl):PV.le (.e (ij b)) (.e (ij (lL s x d b p 0))))]<|.nil)]<|.nil) ah 
theorem al8(s:kV)(x:List Iv)(d:Dy)(b:List Iv)(n p:Nat)(h:mI s)(hx:ke s.iA x)(hd:d.ic)(h0:0<d.iK)(hb:ke s.iA b)(im:8<=p)(ia:p<=512)(hn:n<=100)(hh:pP s x d b p=true)(hr:rz s.tape)(oq:gW 117 [jj s,ij x,gZ d,iP (p:Int)] (bP true))(IC:∀ b,ke s.iA b->gW 31 [jj s,ij b] (bP true)):gW 26 [(jj s),(ij x),(gZ d),(ij b),(iP n),(iP p)] (ij (lL s x d b p n)):=by
 have s1:=h.s1;have s4:=h.s4;have um:=hb.len;have ss:p<=4096:= ae ;have sX:=Ka hr hx hb s1 h.params.yl hd (bw ((oD d).1.1 h0)) (show 1<=p by omega) ss hh;exact tr true call26 func26 (chain [tF 15 ((n:Int)<0) ae,tF 18 (100<(n:Int)) ae,.c (by rw[<-hh];exact afw s x d b p h hx hd h0 hb im ia hr oq (IC b hb):gW 67 [(jj s),(ij x),(gZ d),(ij b),(iP p)] (bP true)),.s (Sp.jy (YG s x d b n p) 0 n ae (λk hk Az=>by
    have uh:=(sX k).1;exact iC (chain [tT 31 ((k:Int)<n) ae,.c (M3 s x d _ p h hx hd h0 uh im ia hr oq (IC _ uh):gW 68 [(jj s),(ij x),(gZ d),(ij (lL s x d b p k)),(iP p)] _),
     iu ((k:Int)+1) ae]<|.e (chain [.o 3 (.e (.iS rfl):PV.le (.e (ij (lf s x d (lL s x d b p k) p))) (.e (ij (lL s x d b p (k+1)))))]<|.nil)) ah)
  (λhk=>by
    exact iC (chain [tF 31 ((n:Int)<n) ae]<|.nil) ah) ak:jv 4 Tryz.f26 (YG s x d b n p 0) (.exit 0) ⟨41,true,[(3,.e (ij (lL s x d b p n)))],[]⟩) (chain [.o 3 (.e (.iS rfl):PV.le (.e (ij b)) (.e (ij (lL s x d b p 0))))]<|.nil)]<|.nil) ah 
theorem aa1(s:jt)(g:s.jg)(sm:s.mj)(hs:mE s=true)(o1:mI s.v)(e1:lg s=jj s.v)(b:List Iv)(hb:ke s.v.iA b):gW 31 [jj s.v,ij b] (bP true):=by
 have s4:=o1.s4;have s1:=o1.s1;have hl:(s7 b).length=b.length:=by unfold s7;rw[cR]
 have lp:∀ i,i<b.length->(s7 b).getD i ju=(b.getD i ig).raw:=λi hi=>by unfold s7;simp[aW,hi]
 have gb:∀ i,((s7 b).getD i ju).jg:=λi=>by
  by_cases hi:i<b.length
  .rw [lp i hi];exact(hb.ok i hi).1.Iq
  .rw [aW,bT ae];exact OO
 have:=Ol s g sm (s7 b) gb (by rw[hl,hb.len];omega);have e:wu s (s7 b)=true:=by
  unfold wu qs;rw[hs,dF,bu,bU,hl,hb.len];refine⟨by show(s.iA.toNat:Int)=s.iA;change 1<=s.iA.toNat at s1;omega,bH.2 λi hi=>?_⟩;have hi:=bI.1 hi;rw[lp i (by rw[hb.len];exact hi)];obtain⟨v,a⟩:=hb.ok i (by rw[hb.len];exact hi);unfold nA;rw[r8.2 v.Jw,dF];show(!(b.getD i ig).all)=true;rw[a];rfl
 rwa[e,e1,Jg]at this
theorem al9(s:jt)(x:List RI)(d:RD)(b:List RI)(n p:Int)(g:s.jg)(gx:∀ i,(x.getD i ju).jg)(gd:d.jg)(gb:∀ i,(b.getD i ju).jg)(hE:(¬sS s=true\/¬qS x=true\/¬qS b=true\/qg d=true\/200<p\/20<n/\n<=100)):gW 5 [(lg s),(j8 x),(mf d),(j8 b),(iP n),(iP p)] (bP true):=
 tr true call5 func5 (chain [.c Dw,.c (Nk s)]<|.w (sS s=true)
  (λk1=>chain [tB 17 (k1),.c (BU x)]<|.w (qS x=true)
   (λk2=>chain [tB 21 (k2),.c (BU b)]<|.w (qS b=true)
    (λk3=>chain [tB 26 (k3),.c (Fx d)]<|.w (qg d=true)
     (λk4=>chain [tB 31 (k4)]<|.nil)
     (λk4=>chain [tB 31 (aO k4)]<|.w (200<p)
      (λk5=>chain [tB 35 (aT k5)]<|.nil)
      (λk5=>chain [tB 35 (aU k5)]<|.w (20<n)
       (λk6=>chain [tB 39 (aT k6)]<|.w (n<=100)
        (λk7=>chain [tB 42 (aT k7)]<|.nil)
        (λk7=>.x (by rcases hE with q|q|q|q|q|q<;>first|contradiction|omega)))
       (λk6=>.x (by rcases hE with q|q|q|q|q|q<;>first|contradiction|omega)))))
    (λk3=>chain [tB 26 (aO k3)]<|.nil))
   (λk2=>chain [tB 21 (aO k2)]<|.nil))
  (λk1=>chain [tB 17 (aO k1)]<|.nil)) ah 
theorem ame(s:jt)(x:List RI)(d:RD)(b:List RI)(n p:Int)(g:s.jg)(gx:∀ i,(x.getD i ju).jg)(gd:d.jg)(gb:∀ i,(b.getD i ju).jg)(h1:sS s=true)(h2:qS x=true)(EM:qS b=true)(h3:qg d=false)(h4:p<=200)(h5:¬(20<n/\n<=100))(lH:n<0\/100<n\/ur s x d b p=false):gW 5 [(lg s),(j8 x),(mf d),(j8 b),(iP n),(iP p)] (bP true):=by
 have sm:=Sg h1;have lv:x.length<=1000:=by have:=J1 h2;omega
 have nn:b.length<=1000:=by have:=J1 EM;omega
 exact tr true call5 func5 (chain [.c Dw,.c (Nk s),tB 18 (by rw[h1];rfl:(!(sS s))=false),.c (BU x),tB 22 (by rw[h2];rfl:(!(qS x))=false),.c (BU b),tB 27 (by rw[EM];rfl:(!(qS b))=false),.c (Fx d),tB 31 (h3:(qg d)=false),tF 35 (200<p) ae]<|.w (20<n)
  (λk1=>by
   have h6:¬n<=100:=λq=>h5 ⟨k1,q⟩
   exact chain [tB 39 (aT k1)]<|.w (n<=100)
    (λk2=>.x ae)
    (λk2=>chain [tB 42 (aU k2),.c (YJ s g sm x gx lv d gd p b gb nn n lH)]<|.w (n<0)
     (λk3=>chain [tB 53 (aT k3),tB 69 (ag:((0:Int)==0)=true)]<|.nil)
     (λk3=>chain [tB 53 (aU k3)]<|.w (100<n)
      (λk4=>chain [tB 56 (aT k4),tB 69 (ag:((0:Int)==0)=true)]<|.nil)
      (λk4=>chain [tB 56 (aU k4),.c (MF s g sm x gx lv d gd p b gb nn)]<|.w (ur s x d b p=true)
       (λk5=>.x (by rcases lH with q|q|q<;>first|contradiction|omega|(rw[show ur s x d b p=true from af]at q;cases q)))
       (λk5=>chain [tB 64 (aO k5),tB 69 (ag:((0:Int)==0)=true)]<|.nil)))))
  (λk1=>chain [tB 39 (aU k1),.c (YJ s g sm x gx lv d gd p b gb nn n lH)]<|.w (n<0)
   (λk2=>chain [tB 53 (aT k2),tB 69 (ag:((0:Int)==0)=true)]<|.nil)
   (λk2=>chain [tB 53 (aU k2)]<|.w (100<n)
    (λk3=>chain [tB 56 (aT k3),tB 69 (ag:((0:Int)==0)=true)]<|.nil)
    (λk3=>chain [tB 56 (aU k3),.c (MF s g sm x gx lv d gd p b gb nn)]<|.w (ur s x d b p=true)
     (λk4=>.x (by rcases lH with q|q|q<;>first|contradiction|omega|(rw[show ur s x d b p=true from af]at q;cases q)))
     (λk4=>chain [tB 64 (aO k4),tB 69 (ag:((0:Int)==0)=true)]<|.nil))))) ah 
theorem amf(s:kV)(x:List Iv)(d:Dy)(b:List Iv)(n p:Nat)(h:mI s)(hx:ke s.iA x)(hd:d.ic)(h0:0<d.iK)(hb:ke s.iA b)(im:8<=p)(ia:p<=512)(p200:p<=200)(wO:gW 19 [jj s] (bP true))(wZ:gW 20 [ij x] (bP true))(w8:gW 20 [ij b] (bP true))(wS:gW 21 [gZ d] (bP false))(oq:gW 117 [jj s,ij x,gZ d,iP (p:Int)] (bP true))(hn:n<=20)(hh:pP s x d b p=true)(wY:gW 24 [jj s] (bP true))(hr:rz s.tape)(IC:∀ b,ke s.iA b->gW 31 [jj s,ij b] (bP true)):gW 5 [(jj s),(ij x),(gZ d),(ij b),(iP n),(iP p)] (bP true):=by
 have s1:=h.s1;have s4:=h.s4;have um:=hb.len;have ss:p<=4096:= ae ;have sX:=Ka hr hx hb s1 h.params.yl hd (bw ((oD d).1.1 h0)) (show 1<=p by omega) ss hh;have jJ:=λk (_:k<n)=>al7 hr hx hb s1 h.params.yl hd (bw ((oD d).1.1 h0)) (show 1<=p by omega) ss hh k
 have MR:=(sX n).1.ok;have MQ:=(sX n).1.len;have ki:=hb.ok;have k3:=(sX n).2.2;exact tr true call5 func5 (chain [.c Dw,.c (wO:gW 19 [(jj s)] _),.c (wZ:gW 20 [(ij x)] _),.c (w8:gW 20 [(ij b)] _),.c (wS:gW 21 [(gZ d)] _),tF 35 (200<(p:Int)) ae,tF 39 (20<(n:Int)) ae,.c (Pc s x d b n p h hx hd h0 hb im ia ae hh jJ),tF 53 ((n:Int)<0) ae,tF 56 (100<(n:Int)) ae,.c (by rw[<-hh];exact wV s x d b p h hx hd h0 hb im ia:gW 23 [(jj s),(ij x),(gZ d),(ij b),(iP p)] (bP true)),.c (wY:gW 24 [(jj s)] _),.c (al8 s x d b n p h hx hd h0 hb im ia ae hh hr oq IC:gW 26 [(jj s),(ij x),(gZ d),(ij b),(iP n),(iP p)] _),.c (agE (lL s x d b p n) MR ae),.c (He (lL s x d b p n) b ae ae ae af af),tB 84 (k3),.c (by rw[<-(sX n).2.1];exact wV s x d _ p h hx hd h0 (sX n).1 im ia:gW 23 [(jj s),(ij x),(gZ d),(ij (lL s x d b p n)),(iP p)] (bP true))]<|.nil) ah 
theorem amb(s:kV)(x:List Iv)(d:Dy)(b:List Iv)(n p:Nat)(h:mI s)(hx:ke s.iA x)(hd:d.ic)(h0:0<d.iK)(hb:ke s.iA b)(im:8<=p)(ia:p<=512)(p200:p<=200)(wO:gW 19 [jj s] (bP true))(wZ:gW 20 [ij x] (bP true))(w8:gW 20 [ij b] (bP true))(wS:gW 21 [gZ d] (bP false))(oq:gW 117 [jj s,ij x,gZ d,iP (p:Int)] (bP true))(hn:n<=20)(hh:pP s x d b p=true)(wY:gW 24 [jj s] (bP false))(jJ:∀ k,k<n->(lL s x d b p (k+1))≠[])(hz:n=0):gW 5 [(jj s),(ij x),(gZ d),(ij b),(iP n),(iP p)] (bP true):=by
 have s1:=h.s1;have s4:=h.s4;have um:=hb.len;have ss:p<=4096:= ae ;have vC:=hx.len;have Fh:=D9 hx (show 1<=p by omega) ss hb n jJ;have MR:=Fh.ok;have MQ:=Fh.len;have hxo:=hx.ok;exact tr true call5 func5 (chain [.c Dw,.c (wO:gW 19 [(jj s)] _),.c (wZ:gW 20 [(ij x)] _),.c (w8:gW 20 [(ij b)] _),.c (wS:gW 21 [(gZ d)] _),tF 35 (200<(p:Int)) ae,tF 39 (20<(n:Int)) ae,.c (Pc s x d b n p h hx hd h0 hb im ia ae hh jJ),tF 53 ((n:Int)<0) ae,tF 56 (100<(n:Int)) ae,.c (by rw[<-hh];exact wV s x d b p h hx hd h0 hb im ia:gW 23 [(jj s),(ij x),(gZ d),(ij b),(iP p)] (bP true)),.c (wY:gW 24 [(jj s)] _),tB 96 (aK ae:(((lL s x d b p n).length:Int)==0)=false),tB 106 (DF ae:(((lL s x d b p n).length:Int)==b.length)=true),tB 109 (aM ae:((n:Int)==0)=true)]<|.nil) ah 
theorem amc(s:kV)(x:List Iv)(d:Dy)(b:List Iv)(n p:Nat)(h:mI s)(hx:ke s.iA x)(hd:d.ic)(h0:0<d.iK)(hb:ke s.iA b)(im:8<=p)(ia:p<=512)(p200:p<=200)(wO:gW 19 [jj s] (bP true))(wZ:gW 20 [ij x] (bP true))(w8:gW 20 [ij b] (bP true))(wS:gW 21 [gZ d] (bP false))(oq:gW 117 [jj s,ij x,gZ d,iP (p:Int)] (bP true))(hn:n<=20)(hh:pP s x d b p=true)(wY:gW 24 [jj s] (bP false))(jJ:∀ k,k<n->(lL s x d b p (k+1))≠[])(hz:¬n=0):gW 5 [(jj s),(ij x),(gZ d),(ij b),(iP n),(iP p)] (bP true):=by
 have s1:=h.s1;have s4:=h.s4;have um:=hb.len;have ss:p<=4096:= ae ;have vC:=hx.len;have Fh:=D9 hx (show 1<=p by omega) ss hb n jJ;have MR:=Fh.ok;have MQ:=Fh.len;have hxo:=hx.ok;have k2:ng x (lL s x d b p n)=true:=by
  obtain⟨m,rfl⟩:∃ m,n=m+1:=⟨n-1,ae⟩
  have hbm:=D9 hx (show 1<=p by omega) ss hb m (λj hj=>jJ j ae);obtain⟨f1,f2,f3,f4⟩:=yE h hbm;exact ano hx hd (bw ((oD d).1.1 h0)) f4 (show 1<=p by omega) ss (jJ m ae)
 exact tr true call5 func5 (chain [.c Dw,.c (wO:gW 19 [(jj s)] _),.c (wZ:gW 20 [(ij x)] _),.c (w8:gW 20 [(ij b)] _),.c (wS:gW 21 [(gZ d)] _),tF 35 (200<(p:Int)) ae,tF 39 (20<(n:Int)) ae,.c (Pc s x d b n p h hx hd h0 hb im ia ae hh jJ),tF 53 ((n:Int)<0) ae,tF 56 (100<(n:Int)) ae,.c (by rw[<-hh];exact wV s x d b p h hx hd h0 hb im ia:gW 23 [(jj s),(ij x),(gZ d),(ij b),(iP p)] (bP true)),.c (wY:gW 24 [(jj s)] _),tB 96 (aK ae:(((lL s x d b p n).length:Int)==0)=false),tB 106 (DF ae:(((lL s x d b p n).length:Int)==b.length)=true),tB 109 (aK ae:((n:Int)==0)=false),.c (He x (lL s x d b p n) ae ae ae af af),tB 113 (k2)]<|.nil) ah 
theorem amd(s:kV)(x:List Iv)(d:Dy)(b:List Iv)(n p:Nat)(h:mI s)(hx:ke s.iA x)(hd:d.ic)(h0:0<d.iK)(hb:ke s.iA b)(im:8<=p)(ia:p<=512)(p200:p<=200)(wO:gW 19 [jj s] (bP true))(wZ:gW 20 [ij x] (bP true))(w8:gW 20 [ij b] (bP true))(wS:gW 21 [gZ d] (bP false))(oq:gW 117 [jj s,ij x,gZ d,iP (p:Int)] (bP true))(hn:n<=20)(hh:pP s x d b p=true)(wY:gW 24 [jj s] (bP false))(N:Nat)(mz:N<n)(jJ:∀ k,k<N->(lL s x d b p (k+1))≠[])(hN:(lL s x d b p (N+1))=[]):gW 5 [(jj s),(ij x),(gZ d),(ij b),(iP n),(iP p)] (bP true):=by
 have s1:=h.s1;have s4:=h.s4;have um:=hb.len;have ss:p<=4096:= ae ;exact tr true call5 func5 (chain [.c Dw,.c (wO:gW 19 [(jj s)] _),.c (wZ:gW 20 [(ij x)] _),.c (w8:gW 20 [(ij b)] _),.c (wS:gW 21 [(gZ d)] _),tF 35 (200<(p:Int)) ae,tF 39 (20<(n:Int)) ae,.c (amg s x d b n p h hx hd h0 hb im ia ae hh N mz jJ hN),tF 53 ((n:Int)<0) ae,tF 56 (100<(n:Int)) ae,.c (by rw[<-hh];exact wV s x d b p h hx hd h0 hb im ia:gW 23 [(jj s),(ij x),(gZ d),(ij b),(iP p)] (bP true)),.c (wY:gW 24 [(jj s)] _),tB 96 (ag:((0:Int)==0)=true),tT 99 (0<(n:Int)) ae]<|.nil) ah 
theorem ama(s:kV)(x:List Iv)(d:Dy)(b:List Iv)(n p:Nat)(h:mI s)(hx:ke s.iA x)(hd:d.ic)(h0:0<d.iK)(hb:ke s.iA b)(im:8<=p)(ia:p<=512)(p200:p<=200)(wO:gW 19 [jj s] (bP true))(wZ:gW 20 [ij x] (bP true))(w8:gW 20 [ij b] (bP true))(wS:gW 21 [gZ d] (bP false))(oq:gW 117 [jj s,ij x,gZ d,iP (p:Int)] (bP true))(hn:n<=20)(hh:pP s x d b p=true)(wY:gW 24 [jj s] (bP false)):gW 5 [(jj s),(ij x),(gZ d),(ij b),(iP n),(iP p)] (bP true):=by
 by_cases q:∃ k,k<n/\decide ((lL s x d b p (k+1))=[])=true
 .obtain ⟨N,n1,n2,n3⟩:=qx q
  exact amd s x d b n p h hx hd h0 hb im ia p200 wO wZ w8 wS oq hn hh wY N n1 (λk hk=>by simpa using n3 k hk) (ck n2)
 .have jJ:∀ k,k<n->(lL s x d b p (k+1))≠[]:=λk hk e=>q ⟨k,hk,aT e⟩
  by_cases hz:n=0
  .exact amb s x d b n p h hx hd h0 hb im ia p200 wO wZ w8 wS oq hn hh wY jJ hz
  .exact amc s x d b n p h hx hd h0 hb im ia p200 wO wZ w8 wS oq hn hh wY jJ hz
theorem agH(s:jt)(x:List RI)(d:RD)(b:List RI)(n p:Int)(g:s.jg)(gx0:∀ y,y ∈ x->y.jg)(gd:d.jg)(gb0:∀ y,y ∈ b->y.jg):gW 5 [lg s,j8 x,mf d,j8 b,iP n,iP p] (bP true):=by
 have gx:=SI gx0;have gb:=SI gb0;by_cases hE:(¬sS s=true\/¬qS x=true\/¬qS b=true\/qg d=true\/200<p\/20<n/\n<=100)
 .exact al9 s x d b n p g gx gd gb hE
 have h1:sS s=true:=bG λq=>hE (.inl q)
 have h2:qS x=true:=bG λq=>hE (.inr (.inl q))
 have EM:qS b=true:=bG λq=>hE (.inr (.inr (.inl q)))
 have h3:qg d=false:=aO λq=>hE (.inr (.inr (.inr (.inl q))))
 have h4:p<=200:=Int.not_lt.1 λq=>hE (.inr (.inr (.inr (.inr (.inl q)))))
 have h5:¬(20<n/\n<=100):=λq=>hE (.inr (.inr (.inr (.inr (.inr q)))))
 by_cases lH:n<0\/100<n\/ur s x d b p=false
 .exact ame s x d b n p g gx gd gb h1 h2 EM h3 h4 h5 lH
 have hh:ur s x d b p=true:=by
  cases q:ur s x d b p with
  |true=>rfl
  |false=>exact absurd (.inr (.inr q)) lH
 unfold ur at hh;rw[bu,bu]at hh;obtain⟨hf,C7,hh⟩:=hh;have sm:=Sg h1;have lv:x.length<=1000:=by have:=J1 h2;omega
 obtain⟨o1,o2,o3,o4,p1,p2,e1,e2,e3⟩:=So g gx gd hf;obtain⟨o5,e4⟩:=Qu gb C7;have hs:mE s=true:=by unfold mQ at hf;simp only[bu]at hf;exact hf.1.1.1.1
 have c1:=Nk s;have c2:=BU x;have c2b:=BU b;have c3:=Fx d;have c4:=agF s g sm;have c5:=ai3 s g sm x gx lv d gd p;rw[h1,e1]at c1;rw[h2,e2]at c2;rw[EM,e4]at c2b;rw[h3,e3]at c3;rw[e1]at c4;rw[hf,e1,e2,e3]at c5;rw[e1,e2,e3,e4];obtain⟨q,rfl⟩:=dD (show 0<=p by omega);obtain⟨n,rfl⟩:=dD (show 0<=n by omega);cases hr:DS s with
 |true=>rw[hr]at c4;exact amf s.v (x.map RI.iv) d.dy (b.map RI.iv) n q o1 o2 o3 o4 o5 ae ae ae c1 c2 c2b c3 c5 ae hh c4 (ajx hr o1) (aa1 s g sm hs o1 e1)
 |false=>rw[hr]at c4;exact ama s.v (x.map RI.iv) d.dy (b.map RI.iv) n q o1 o2 o3 o4 o5 ae ae ae c1 c2 c2b c3 c5 ae hh c4
open Go.ChangeShapes Go.WideShapes Go.ChangeAt
theorem ajH{W:World}{x:RD}{cs:Array Value}(h:Pv W x cs.toList):iH nd nd W (mf x) (.agg cs):=by
 obtain⟨_,hl,h⟩:=h;have:=iH.agg (bs:=nd) (br:=nd) (w:=W) (Ot x) cs.toList (by rw[hl];rfl) (λi p v h1 h2=>by
  have hi:i<3:=by have:=(bZ.1 h2).1;omega
  obtain⟨v',h3,h4⟩:=h i hi;rw[h2]at h3;cases h3;rw[aW,h1]at h4;exact h4)
 unfold mf;exact this
def Kv(W:World)(o:nj)(cs:List Value):Prop:=o.jg/\cs.length=6/\∀ j,j<6->∃ v,cs[j]? = some v/\iH nd nd W ((zI o).getD j .any) v
theorem agY{α:Type}{l:List α}(h:l.length=2):∃ a b,l=[a,b]:=by
 rcases l with _|⟨a,_|⟨b,_|⟨c,l⟩⟩⟩<;>simp at h
 exact⟨a,b,rfl⟩
theorem agZ{α:Type}{l:List α}(h:l.length=5):∃ a b c d e,l=[a,b,c,d,e]:=by
 rcases l with _|⟨a,_|⟨b,_|⟨c,_|⟨d,_|⟨e,_|⟨f,l⟩⟩⟩⟩⟩⟩<;>simp at h
 exact⟨a,b,c,d,e,rfl⟩
theorem ag0{α:Type}{l:List α}(h:l.length=6):∃ a b c d e f,l=[a,b,c,d,e,f]:=by
 rcases l with _|⟨a,_|⟨b,_|⟨c,_|⟨d,_|⟨e,_|⟨f,_|⟨g,l⟩⟩⟩⟩⟩⟩⟩<;>simp at h
 exact⟨a,b,c,d,e,f,rfl⟩
section
variable {H:Type} {enc:TypeId×Value->H} {W:World} {fuel:Nat} {cs:List Value} {x:DataW H×List MemPlace}
theorem AP(h:DataW.trod enc prog W 0 (λ_=>true) true fuel 3 cs=some x):∃ z,cs=[.int .i64 z]/\ky .i64 z:=by
 obtain⟨z,hz,_,hw⟩:=DataW.trod_int underlying3 h;exact⟨z,hz,Zf hw⟩
theorem ah4(h:DataW.trod enc prog W 0 (λ_=>true) true fuel 72 cs=some x):∃ n d,cs=[.int .i64 n,.int .i64 d]/\ky .i64 n/\ky .i64 d:=by
 obtain⟨xs,n,rfl,rfl,hl,lv,hf⟩:=DataW.trod_struct underlying72 h;have hC:prog.cellsOf 72=2:= ah ;have hI:prog.cellsOf 3=1:= ah ;rw[hC]at hl;obtain⟨c0,c1,rfl⟩:=agY hl;have h0:=hf 0 _ rfl;have h1:=hf 1 _ rfl;simp only[eN,eO,dX]at h0 h1;simp only[hI,eP,eR,ep,eU]at h0 h1;rw[bg (by rw[lv];decide)]at h0 h1;obtain⟨z0,e0,w0⟩:=AP h0;obtain⟨z1,e1,w1⟩:=AP h1;simp at e0 e1;subst e0 e1;exact⟨z0,z1,rfl,w0,w1⟩
theorem ah6(h:DataW.trod enc prog W 0 (λ_=>true) true fuel 74 cs=some x):∃ o,Kv W o cs:=by
 obtain⟨xs,n,rfl,rfl,hl,lv,hf⟩:=DataW.trod_struct underlying74 h;have hC:prog.cellsOf 74=6:= ah ;have hR:prog.cellsOf 72=2:= ah ;have hI:prog.cellsOf 3=1:= ah ;rw[hC]at hl;obtain⟨c0,c1,c2,c3,c4,c5,rfl⟩:=ag0 hl;have h0:=hf 0 _ rfl;have h1:=hf 1 _ rfl;have h2:=hf 2 _ rfl;have h3:=hf 3 _ rfl;have h4:=hf 4 _ rfl;simp only[eN,eO,dX]at h0 h1 h2 h3 h4;simp only[hI,hR,eP,eR,ep,eU]at h0 h1 h2 h3 h4;rw[bg (by rw[lv];decide)]at h0 h1 h2 h3 h4;obtain⟨z0,e0,w0⟩:=AP h0;obtain⟨z1,e1,w1⟩:=AP h1;obtain⟨z2,e2,w2⟩:=AP h2;obtain⟨z3,e3,w3⟩:=AP h3;obtain⟨z4,z5,e4,w4,w5⟩:=ah4 h4;simp at e0 e1 e2 e3 e4;obtain⟨e4,e5⟩:=e4;subst e0 e1 e2 e3 e4 e5;refine⟨⟨z0,z1,z2,z3,z4,z5⟩,⟨w0,w1,w2,w3,w4,w5⟩,rfl,λj hj=>?_⟩;rcases j with _|_|_|_|_|_|j
 all_goals first|exact⟨_,rfl,.v _⟩|omega
theorem akr(o:nj)(j:Nat)(hj:j<6):((zI o).getD j .any).one=true/\(((zI o).getD j .any).nx=true)/\((zI o).getD j .any).nr 2=true:=by
 rcases j with _|_|_|_|_|_|j
 all_goals first|exact⟨rfl,rfl,rfl⟩|omega
theorem ah7(h:DataW.trod enc prog W 0 (λ_=>true) true fuel 22 cs=some x):
  ∃ l v,cs=[v]/\(∀ y,y ∈ l->y.jg)/\iH nd nd W (jL l) v:=by
 have hC:prog.cellsOf 74=6:= ah ;rcases Deep.open_slice underlying22 h with⟨rfl,_⟩|⟨a,len,cap,m,n,D,Pl,rfl,hb,hl,hm,sr,rfl,hx⟩
 .exact ⟨[],_,rfl,(λy hy=>by cases hy),.sl true 0 6 _ none 0 (λ_ _=>.bool false) (aV _) ag (λ_=>rfl) (λi j hi=>absurd hi (bk i)) (λi j hi=>absurd hi (bk i)) (λi j hi=>absurd hi (bk i)) (λi j hi=>absurd hi (bk i))⟩
 .simp only[bn]at sr
  subst sr;have ex:∀ i,∃ y:nj,i<len->∃ cs',W.cells? 0 (a.add (i*6)) 6=some cs'/\Kv W y cs':=by
   intro i;by_cases hi:i<len
   .obtain ⟨cs',h1,h2⟩:=hx i ae 
    rw[hC]at h1;obtain⟨y,hy⟩:=ah6 h2;exact⟨y,λ_=>⟨cs',h1,hy⟩⟩
   .exact ⟨iY,λh=>absurd h hi⟩
  let X:Nat->nj:=λi=>Classical.choose (ex i)
  have hX:∀ i,i<len->∃ cs',W.cells? 0 (a.add (i*6)) 6=some cs'/\Kv W (X i) cs':=λi=>cN (ex i)
  have hlen:((List.range len).map X).length=len:= aj ;refine⟨(List.range len).map X,_,rfl,?_,?_⟩
  .intro y hy
   obtain⟨i,hi,rfl⟩:=c9.1 hy;obtain⟨cs',_,h2⟩:=hX i (bI.1 hi);exact h2.1
  .have EX:∀ i,i<len->((List.range len).map X).getD i iY=X i:=by
    intro i hi;rw[aW,cj,an0 hi];rfl
   have:=OB (W:=W) (a:=a) (len:=len) (cap:=m) (nl:=true) (λi j=>(zI (((List.range len).map X).getD i iY)).getD j .any) hl hm (show 0<6 by decide)
    (λi j _ hj=>let⟨h1,h2,h3⟩:=akr (((List.range len).map X).getD i iY) j hj;⟨h1,λ_=>h2,h3⟩)
    (λi hi=>by
     obtain⟨cs',h1,h2,_,h3⟩:=hX i hi;exact⟨cs',h1,λj hj=>by rw[EX i hi];exact h3 j hj⟩)
   unfold jL;rw[hlen];exact this
theorem akp:iY.jg:=by constructor<;>(show ky .i64 0;unfold ky;decide)
theorem LP{α:Type}{P:α->Prop}{l:List α}{d:α}(h:∀ y,y ∈ l->P y)(hd:P d)(i:Nat):P (l.getD i d):=by
 by_cases hi:i<l.length
 .rw [aW,bg hi];exact h _ (cz hi)
 .rw [aW,bT ae];exact hd
def Pw(W:World)(s:jt)(cs:List Value):Prop:=s.jg/\cs.length=5/\∀ j,j<5->∃ v,cs[j]? = some v/\iH nd nd W ((OK s).getD j .any) v
theorem ah9(h:DataW.trod enc prog W 0 (λ_=>true) true fuel 25 cs=some x):
 ∃ (n:Int) (gX:List nj) (ik:List Int) (v w:Value),cs=[.int .i64 n,v,w]/\ky .i64 n/\(∀ y,y ∈ gX->y.jg)/\(∀ z,z ∈ ik->ky .i64 z)/\iH nd nd W (jL gX) v/\iH nd nd W (jP ik) w:=by
 obtain⟨xs,n,rfl,rfl,hl,lv,hf⟩:=DataW.trod_struct underlying25 h;have hC:prog.cellsOf 25=3:= ah ;have hI:prog.cellsOf 3=1:= ah ;have hO:prog.cellsOf 22=1:= ah ;have hU:prog.cellsOf 23=1:= ah ;rw[hC]at hl;obtain⟨c0,c1,c2,rfl⟩:=U8 hl;have h0:=hf 0 _ rfl;have h1:=hf 1 _ rfl;have h2:=hf 2 _ rfl;simp only[eN,eO,dX]at h0 h1 h2;simp only[hI,hO,hU,eP,eR,ep,eU]at h0 h1 h2;rw[bg (by rw[lv];decide)]at h0 h1 h2;obtain⟨z0,e0,w0⟩:=AP h0;obtain⟨gX,v,e1,g1,r1⟩:=ah7 h1;obtain⟨ik,w,e2,g2,r2⟩:=ah2 (k:=.i64) (λ_=>rfl) underlying23 underlying3 hI h2;simp at e0 e1 e2;subst e0 e1 e2;exact⟨z0,gX,ik,_,_,rfl,w0,g1,g2,r1,r2⟩
theorem ah8(h:DataW.trod enc prog W 0 (λ_=>true) true fuel 28 cs=some x)(iE:∀ p ∈ x.2,p.block<W.heap.size):∃ s,Pw W s cs:=by
 obtain⟨xs,n,rfl,rfl,hl,lv,hf⟩:=DataW.trod_struct underlying28 h;have hC:prog.cellsOf 28=5:= ah ;have hT:prog.cellsOf 25=3:= ah ;have hI:prog.cellsOf 3=1:= ah ;have hP:prog.cellsOf 26=1:= ah ;rw[hC]at hl;obtain⟨c0,c1,c2,c3,c4,rfl⟩:=agZ hl;have h0:=hf 0 _ rfl;have h1:=hf 1 _ rfl;have h2:=hf 2 _ rfl;simp only[eN,eO,dX]at h0 h1 h2;simp only[hT,hI,hP,eP,eR,ep,eU]at h0 h1 h2;rw[bg (by rw[lv];decide)]at h0 h1 h2;obtain⟨z0,gX,ik,v,w,e0,w0,g1,g2,r1,r2⟩:=ah9 h0;obtain⟨z1,e1,w1⟩:=AP h1;obtain⟨ps,u,e2,g3,r3⟩:=NW h2 (λp hp=>iE p (eV.2 ⟨_,cz _,hp⟩));simp at e0 e1 e2;obtain⟨e0,e0b,e0c⟩:=e0;subst e0 e0b e0c e1 e2;refine⟨⟨z0,gX,ik,z1,ps⟩,⟨w0,LP g1 akp,LP g2 (by unfold ky;decide),w1,LP g3 OO⟩,rfl,λj hj=>?_⟩;rcases j with _|_|_|_|_|j
 .exact ⟨_,rfl,.v _⟩
 .exact ⟨_,rfl,r1⟩
 .exact ⟨_,rfl,r2⟩
 .exact ⟨_,rfl,.v _⟩
 .exact ⟨_,rfl,r3⟩
 .omega
end
theorem alX{W:World}{x:jt}{cs:Array Value}(h:Pw W x cs.toList):iH nd nd W (lg x) (.agg cs):=by
 obtain⟨_,hl,h⟩:=h;have:=iH.agg (bs:=nd) (br:=nd) (w:=W) (OK x) cs.toList (by rw[hl];rfl) (λi p v h1 h2=>by
  have hi:i<5:=by have:=(bZ.1 h2).1;omega
  obtain⟨v',h3,h4⟩:=h i hi;rw[h2]at h3;cases h3;rw[aW,h1]at h4;exact h4)
 unfold lg;exact this
def adm:Value:=.agg #[.bool false,.slice none 0 0,.int .i64 0]
def adn{H:Type}:DataW H:=.agg [.lit (.bool false),.nil,.lit (.int .i64 0)]
def ads:Value:=.agg #[.int .i64 0,.slice none 0 0,.slice none 0 0,.int .i64 0,.slice none 0 0]
def adt{H:Type}:DataW H:=.agg [.agg [.lit (.int .i64 0),.nil,.nil],.lit (.int .i64 0),.nil]
def Cp:Array Value:=#[ads,.slice none 0 0,adm,.slice none 0 0,.int .i64 0,.int .i64 0]
set_option maxRecDepth 100000 in
theorem amh(H:Type)(enc:TypeId×Value->H)(W:World)(base:Nat)(args:Array Value)(ds gs:List (DataW H))(before:List MemPlace)
 (kW:∀ (j:Nat) t v,Tryz.f5.params[j]? = some t->args[j]? = some v->Value.okWide prog W .any base t v)
 (hW:DataW.Whole enc prog Tryz.f5.params.toList Rows.picardTightensSpec.vars false W args.toList ds gs before) (hL:laidMetH prog Rows.picardTightensRow.laid W):
 Calls prog 5 args W λe W'=>∃ v,e = .returned v/\Rows.picardTightensSpec.post enc prog Tryz.f5 false true false false W args v W':=by
 have ES:=hW;obtain⟨p,q,ue,hV,rfl,hfz,hnd⟩:=hW;have hA:DataW.TrodAll enc prog W 0 (λ_=>true) true Tryz.f5.params.toList args.toList ds p:=ue;rw[Tryz.params5]at hA kW;obtain⟨v0,vs0,d0,ds0,p0,q0,Dp,rfl,rfl,h0,ue⟩:=trodAll_cons hA;obtain⟨v1,vs1,d1,ds1,p1,q1,rfl,rfl,rfl,h1,Aq⟩:=trodAll_cons ue;obtain⟨v2,vs2,d2,ds2,p2,q2,rfl,rfl,rfl,h2,hA2⟩:=trodAll_cons Aq;obtain⟨v3,vs3,d3,ds3,p3,q3,rfl,rfl,rfl,h3,hA3⟩:=trodAll_cons hA2;obtain⟨v4,vs4,d4,ds4,p4,q4,rfl,rfl,rfl,h4,hA4⟩:=trodAll_cons hA3;obtain⟨v5,vs5,d5,ds5,p5,q5,rfl,rfl,rfl,h5,hA5⟩:=trodAll_cons hA4;obtain⟨rfl,rfl,rfl⟩:=trodAll_nil hA5;obtain rfl:args = #[v0,v1,v2,v3,v4,v5]:=by cases args;simp_all
 obtain⟨rfl,rfl⟩:=trodVars_none hV;obtain⟨cs0,rfl,anD⟩:=okWide_struct underlying28 (kW 0 28 v0 rfl rfl);obtain⟨a1,len1,cap1,rfl⟩:=okWide_slice underlying26 (kW 1 26 v1 rfl rfl);obtain⟨cs2,rfl,T5⟩:=okWide_struct underlying39 (kW 2 39 v2 rfl rfl);obtain⟨a3,len3,cap3,rfl⟩:=okWide_slice underlying26 (kW 3 26 v3 rfl rfl);obtain⟨x4,rfl,rfl,rfl,b4⟩:=open_int underlying3 (kW 4 3 v4 rfl rfl) h4;obtain⟨x5,rfl,rfl,rfl,b5⟩:=open_int underlying3 (kW 5 3 v5 rfl rfl) h5;have h0k:=h0;obtain⟨fuel0,hf0⟩:=h0;have h1k:=h1;obtain⟨fuel1,Mp⟩:=h1;have h2k:=h2;obtain⟨fuel2,Mq⟩:=h2;have h3k:=h3;obtain⟨fuel3,hf3⟩:=h3;clear ue;have De:∀ x ∈ p0,x.block<W.heap.size:=λx hx=>ES.lt x (by simp[hx])
 have BC:∀ x ∈ p1,x.block<W.heap.size:=λx hx=>ES.lt x (by simp[hx])
 have Aw:∀ x ∈ p2,x.block<W.heap.size:=λx hx=>ES.lt x (by simp[hx])
 have TK:∀ x ∈ p3,x.block<W.heap.size:=λx hx=>ES.lt x (by simp[hx])
 obtain⟨x0,g0⟩:=ah8 hf0 De;obtain⟨x1,w1,xN,g1,r1⟩:=NW Mp BC;obtain rfl:Value.slice a1 len1 cap1=w1:=by
  have:(Value.slice a1 len1 cap1).cells.toList=[Value.slice a1 len1 cap1]:=rfl;rw[this]at xN;simpa using xN
 obtain⟨x2,g2⟩:=NV Mq Aw;obtain⟨x3,w3,T9,g3,r3⟩:=NW hf3 TK;obtain rfl:Value.slice a3 len3 cap3=w3:=by
  have:(Value.slice a3 len3 cap3).cells.toList=[Value.slice a3 len3 cap3]:=rfl;rw[this]at T9;simpa using T9
 have lN:=(agH x0 x1 x2 x3 x4 x5 g0.1 g1 g2.1 g3).run W nd [.agg cs0,.slice a1 len1 cap1,.agg cs2,.slice a3 len3 cap3,.int .i64 x4,.int .i64 x5] (al5 rfl hL) (λ_ h=>h.elim) (.cons (alX (cs:=cs0) g0) (.cons r1 (.cons (ajH (cs:=cs2) g2) (.cons r3 (.cons (.v _) (.cons (.v _) (.nil _ _ _)))))));refine lN.mono λr W' ⟨v,hr,hb,rV⟩=>?_
 obtain rfl:=iH.kP rV;subst hr;refine⟨_,rfl,_,_,_,[],p0++(p1++(p2++(p3++([]++([]))))),[],ES,?_,?_,rfl,hb.frame _,λh=>by cases h⟩
 .exact trodAll_mk1 (shut_bool underlying4 _)
 .exact ⟨p0,_,(Below.trod Dx ah (ck ah) h0k hb De),⟨p1,_,(Below.trod Dx ah (ck ah) h1k hb BC),⟨p2,_,(Below.trod Dx ah (ck ah) h2k hb Aw),⟨p3,_,(Below.trod Dx ah (ck ah) h3k hb TK),⟨[],_,(Below.trod Dx ah (ck ah) h4 hb (λ_ h=>by cases h)),trodAll_mk1 (Below.trod Dx ah (ck ah) h5 hb (λ_ h=>by cases h)),rfl⟩,rfl⟩,rfl⟩,rfl⟩,rfl⟩
theorem amk(os:Os):laidMet prog Rows.picardTightensRow.laid ((Nn os Cp).forCall (λ_ _=>0) ⟨#[],Cp,[]⟩).memory:=
 laidMet_of_run' 8 ah ah 
theorem amm(os:Os){H:Type}(enc:TypeId×Value->H):∃ places,DataW.whole enc prog ((Nn os Cp).forCall (λ_ _=>0) ⟨#[],Cp,[]⟩).memory Tryz.f5.params.toList Rows.picardTightensSpec.vars false Cp.toList 8=some ([adt,.nil,adn,.nil,.lit (.int .i64 0),.lit (.int .i64 0)],[],places):=
 ⟨[],ah⟩
set_option maxRecDepth 100000 in
theorem amj(os:Os)(started:os.Started)(H:Type)(enc:TypeId×Value->H)(F:Stop.Interp):
  ReturnsInHanded {} Tryz.checked os 5 .any ((OpenSpec.ofChange Rows.picardTightensSpec).preRow enc prog Tryz.f5 Rows.picardTightensRow.domain false Rows.picardTightensRow.laid) (((OpenSpec.ofChange Rows.picardTightensSpec).at F).post enc prog Tryz.f5 false true false false):=by
 obtain⟨places,hx⟩:=amm os enc;refine returnsInHanded_of_row (C:=Tryz.checked) (s:=OpenSpec.ofChange Rows.picardTightensSpec) own started ah func5
  (witness_row_at (enc:=enc) (C:=Tryz.checked) false (Nn os Cp) Cp rfl ah ah ah 
   (OpenSpec.preRow_of_cond 8 hx ah (λk hk=>by cases hk) ah (amk os))) ?_
 intro W base args ds gs before kW hW _ _ _ hL _ _;exact amh H enc W base args ds gs before kW hW hL
set_option maxHeartbeats 100000000 in
theorem ami:joinedFacts prog 5 Tryz.f5 (OpenSpec.ofChange Rows.picardTightensSpec).bare Rows.picardTightensRow=true:=by
 unfold joinedFacts;simp only[bu]
 and_intros<;>decide +kernel
theorem amn:Rows.PicardTightensSaid:=
 OpenClaim.holds_of_cond 5 Tryz.f5 rfl rfl rfl rfl rfl rfl rfl ⟨rfl,rfl,rfl,rfl,rfl⟩ rfl rfl rfl rfl rfl ah func5 ami
  (ck ah) (by unfold Func.isWrapper;first|(rw[aS ar];kernel_rfl)|(rw[aR ar];exact⟨rfl,rfl⟩))
  (λos started H enc _ F=>by rw[OpenClaim.pre_eq_preRow];exact amj os started H enc F)
theorem aml (f:FuncId) (fn:Func) (hf:Tryz.pinned.checked.prog.funcNamed "flowpipe/flowpipelaw28.PicardTightens" = some f) (hfn:Tryz.pinned.checked.prog.funcs[f]? = some fn):
 false=Tryz.pinned.checked.prog.looks []/\∀ (j:Nat) t,fn.params[j]? = some t->Tryz.pinned.checked.prog.wantsStandIn t=false:=by
 obtain rfl:f=5:=anQ ((show prog.funcNamed "flowpipe/flowpipelaw28.PicardTightens" = some 5 by kernel_rfl).symm.trans hf) |>.symm
 obtain rfl:fn=Tryz.f5:=(anQ (func5.symm.trans hfn)).symm;refine⟨ah,λj t ht=>?_⟩;rw[Tryz.params5]at ht;have:t=28\/t=26\/t=39\/t=3:=by
  have:=dh ht;simp only[fZ,cV,List.not_mem_nil,or_false]at this;rcases this with h|h|h|h|h|h<;>subst h<;>simp
 rcases this with rfl|rfl|rfl|rfl
 .exact (show prog.wantsStandIn 28=false by kernel_rfl)
 .exact (show prog.wantsStandIn 26=false by kernel_rfl)
 .exact (show prog.wantsStandIn 39=false by kernel_rfl)
 .exact (show prog.wantsStandIn 3=false by kernel_rfl)
theorem tightens_card:Rows.PicardTightensCardSaid:=
 Claim7.holds_tied_plain_at .later [] _ _ _ _ amn (λ_ h=>by cases h) ah (λ_ h=>by cases h) picardTightens_row_tie rfl ⟨rfl,rfl⟩ ah rfl aml (aeP ad7 rfl)
end Go.Proofs.YtkjkcjhacddojaaGreatDoor
