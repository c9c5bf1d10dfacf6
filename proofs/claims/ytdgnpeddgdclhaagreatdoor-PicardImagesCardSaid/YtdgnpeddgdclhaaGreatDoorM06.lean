/- The law PicardImages is true for all arguments: Image returns the image of a box, and nothing where there is none. -/
import Derived.Test.YtdgnpeddgdclhaaGreatDoorM05
set_option linter.unusedSimpArgs false
set_option linter.unusedVariables false
set_option linter.defProp false
set_option maxHeartbeats 4000000
namespace Go.Proofs.YtdgnpeddgdclhaaGreatDoor
open Go.RowKit Fp Pu
def V3(d:Dy)(n p:Nat)(x:Nat):PS:=⟨35,true,[(10,.e (iP (((x+1):Nat):Int))),(9,.e (iP ((ix d p false x).2))),(8,.box 8 0),(6,.box 6 0),(3,.box 3 0),(1,.e (iP n)),(2,.e (iP p))],[(8,.cells 31 (jo ((ix d p false x).1))),(6,.cells 31 [(bP false),(.v (.slice none 0 0)),(iP 0)]),(3,.cells 31 (jo d))]⟩
def V4(d:Dy)(n N p:Nat)(x:Nat):PS:=⟨35,true,[(10,.e (iP (((x+1):Nat):Int))),(9,.e (iP ((ix d p false x).2))),(8,.box 8 0),(6,.box 6 0),(3,.box 3 0),(1,.e (iP n)),(2,.e (iP p))],[(8,.cells 31 (jo ((ix d p false x).1))),(6,.cells 31 [(bP false),(.v (.slice none 0 0)),(iP 0)]),(3,.cells 31 (jo d))]⟩
def V5(d:Dy)(n p:Nat)(x:Nat):PS:=⟨35,true,[(10,.e (iP (((x+1):Nat):Int))),(9,.e (iP ((ix d p true x).2))),(8,.box 8 0),(6,.box 6 0),(3,.box 3 0),(1,.e (iP n)),(2,.e (iP p))],[(8,.cells 31 (jo ((ix d p true x).1))),(6,.cells 31 [(bP false),(.v (.slice none 0 0)),(iP 0)]),(3,.cells 31 (jo d))]⟩
def V6(d:Dy)(n N p:Nat)(x:Nat):PS:=⟨35,true,[(10,.e (iP (((x+1):Nat):Int))),(9,.e (iP ((ix d p true x).2))),(8,.box 8 0),(6,.box 6 0),(3,.box 3 0),(1,.e (iP n)),(2,.e (iP p))],[(8,.cells 31 (jo ((ix d p true x).1))),(6,.cells 31 [(bP false),(.v (.slice none 0 0)),(iP 0)]),(3,.cells 31 (jo d))]⟩
noncomputable def Ph(t:pg)(xs:List Iv)(p:Nat)(x:Nat):PS:=⟨55,true,[(8,.e (iP x)),(7,.own 10),(3,.box 3 0),(2,.e (iP p))],[(10,.row true 41 ((iQ t.gW xs p x).length) 7 (ki (iQ t.gW xs p x))),(3,.cells 25 [(iP t.im),(nW t.gW),(nV t.ig)])]⟩
noncomputable def XN(t:pg)(xs:List Iv)(p:Nat)(x:Nat):PS:=⟨79,true,[(11,.own 11),(13,.e (iP x)),(12,.own 24),(10,.e (ik (iQ t.gW xs p t.gW.length))),(4,.box 4 0),(2,.e (iP 0)),(3,.e (iP p))],[(11,.row true 41 x 7 (ki ((List.range x).map (fun j_=>(iQ t.gW xs p t.gW.length).getD (t.ig.getD j_ 0) ie)))),(24,.qa true 26 41 t.ig.length 7 (fun _=>0) (fun _ _ _=>.any) .none),(4,.cells 25 [(iP t.im),(nW t.gW),(nV t.ig)])]⟩
noncomputable def XO(t:pg)(xs:List Iv)(p:Nat)(x:Nat):PS:=⟨79,true,[(14,.e (iP x)),(11,.e (ik ((List.range t.ig.length).map (fun j_=>(iQ t.gW xs p t.gW.length).getD (t.ig.getD j_ 0) ie)))),(12,.own 24),(10,.e (ik (iQ t.gW xs p t.gW.length))),(4,.box 4 0),(2,.e (iP 0)),(3,.e (iP p))],[(24,.qa true 26 41 t.ig.length 7 (fun _=>0) (fun _ _ _=>.any) .none),(4,.cells 25 [(iP t.im),(nW t.gW),(nV t.ig)])]⟩
def Xr(l:List Iv)(N:Nat)(i:Nat):PS:=⟨15,true,[(3,.e (iP i)),(0,.e (ik l))],[]⟩
def Xq(l:List Iv)(i:Nat):PS:=⟨15,true,[(3,.e (iP i)),(0,.e (ik l))],[]⟩
noncomputable def TG(s:lM)(x:List Iv)(d:Dy)(b:List Iv)(p:Nat)(N:Nat)(i:Nat):PS:=⟨64,true,[(13,.own 13),(14,.e (iP i)),(11,.e (ik (je s.tape (b++s.params) p))),(7,.box 7 0),(1,.e (ik x)),(4,.e (iP p))],[(13,.row true 41 i 7 (ki ((List.range i).map (fun j_=>(jj (x.getD j_ ie) (iN (jU d) ((je s.tape (b++s.params) p).getD j_ ie) p) p))))),(7,.cells 31 (jo d))]⟩
noncomputable def TH(s:lM)(x:List Iv)(d:Dy)(b:List Iv)(p:Nat)(i:Nat):PS:=⟨64,true,[(13,.own 13),(14,.e (iP i)),(11,.e (ik (je s.tape (b++s.params) p))),(7,.box 7 0),(1,.e (ik x)),(4,.e (iP p))],[(13,.row true 41 i 7 (ki ((List.range i).map (fun j_=>(jj (x.getD j_ ie) (iN (jU d) ((je s.tape (b++s.params) p).getD j_ ie) p) p))))),(7,.cells 31 (jo d))]⟩
def P7(x:List Iv)(i:Nat):PS:=⟨31,true,[(3,.e (iP i)),(0,.e (ik x))],[]⟩
def TP(x y:List Iv)(i:Nat):PS:=⟨29,true,[(6,.e (iP i)),(5,.e (bP true)),(0,.e (ik x)),(1,.e (ik y))],[]⟩
def TO(x y:List Iv)(N:Nat)(i:Nat):PS:=⟨29,true,[(6,.e (iP i)),(5,.e (bP (decide (i<=N)))),(0,.e (ik x)),(1,.e (ik y))],[]⟩
theorem Jh(d:Dy)(p:Nat)(up:Bool)(hd:d.ib)(il:8<=p)(ic:p<=512):gV 292 [(gY d),(iP p),(bP up)] (.iw [gY (jh d p up),iP (jz d p up)]):=by
 have hl:=hd.gU;have he:=hd.exp;have hx:(gU d.m).length<=2900 /\ -200000<=d.e/\d.e<=200000:=⟨ae,ae,ae⟩
 exact tr true Tryz.call292 Tryz.func292 (chain [.c (FG d d p af af ae ae),tB 14 (ag:((0:Int) != 0)=false),.c (NL d p up hx.1 hx.2.1 hx.2.2 ae ae)]<|.nil) ah 
theorem aiw(d:Dy)(n p:Nat)(hd:d.ib)(hn:1<=n)(j9:n<=16)(il:8<=p)(ic:p<=512)(iH:∀ x,x<n-1->(ix d p false x).2=0):gV 272 [(gY d),(iP n),(iP p)] (.iw [gY (ix d p false (n-1)).1,iP (ix d p false (n-1)).2]):=by
 exact tr true Tryz.call272 Tryz.func272 (chain [.c (Jh d p false af ae ae),.s (Sp.jv (V3 d n p) 0 (n-1) ae (fun x hx kf=>by
    have mj:=iH x ae;have hv:=uf d (show 1<=p by omega) (show p<=4096 by omega) false x;exact iB (chain [tT 19 ((((x+1):Nat):Int)<(n:Int)) ae,tB 22 (by rw[mj];rfl:(((ix d p false x).2)==0)=true),.c (vi ((ix d p false x).1) d p false af af ae ae),
     iq ((((x+1):Nat):Int)+1) ae]<|.e (chain [.o 9 (.int (by rw[se mj];rfl):PV.le (.e (iP (jz (kI ((ix d p false x).1) d) p false))) (.e (iP ((ix d p false (x+1)).2)))),.b 8 (.iS (by rw[se mj];rfl):Bx.le (.cells 31 (jo (jh (kI ((ix d p false x).1) d) p false))) (.cells 31 (jo ((ix d p false (x+1)).1))))]<|.nil)) ah)
  (fun hx=>by
    exact iB (chain [tF 19 (((((n-1)+1):Nat):Int)<(n:Int)) ae]<|.nil) ah) ak:jq 3 Tryz.f272 (V3 d n p 0) (.exit 0) ⟨35,true,[(9,.e (iP ((ix d p false (n-1)).2))),(8,.box 8 0),(6,.box 6 0)],[(8,.cells 31 (jo ((ix d p false (n-1)).1))),(6,.cells 31 [(bP false),(.v (.slice none 0 0)),(iP 0)])]⟩) (chain [.o 10 (.int rfl:PV.le (.e (iP 1)) (.e (iP (((0+1):Nat):Int)))),.o 9 (.int rfl:PV.le (.e (iP (jz d p false))) (.e (iP ((ix d p false 0).2)))),.b 8 (.iS rfl:Bx.le (.cells 31 (jo (jh d p false))) (.cells 31 (jo ((ix d p false 0).1))))]<|.nil)]<|.nil) ah 
theorem aix(d:Dy)(n N p:Nat)(hd:d.ib)(hn:1<=n)(j9:n<=16)(il:8<=p)(ic:p<=512)(mE:N<n-1)(iH:∀ x,x<N->(ix d p false x).2=0)(hN:(ix d p false N).2≠0):gV 272 [(gY d),(iP n),(iP p)] (.iw [gY (ix d p false N).1,iP (ix d p false N).2]):=by
 exact tr true Tryz.call272 Tryz.func272 (chain [.c (Jh d p false af ae ae),.s (Sp.jv (V4 d n N p) 0 N ae (fun x hx kf=>by
    have mj:=iH x ae;have hv:=uf d (show 1<=p by omega) (show p<=4096 by omega) false x;exact iB (chain [tT 19 ((((x+1):Nat):Int)<(n:Int)) ae,tB 22 (by rw[mj];rfl:(((ix d p false x).2)==0)=true),.c (vi ((ix d p false x).1) d p false af af ae ae),
     iq ((((x+1):Nat):Int)+1) ae]<|.e (chain [.o 9 (.int (by rw[se mj];rfl):PV.le (.e (iP (jz (kI ((ix d p false x).1) d) p false))) (.e (iP ((ix d p false (x+1)).2)))),.b 8 (.iS (by rw[se mj];rfl):Bx.le (.cells 31 (jo (jh (kI ((ix d p false x).1) d) p false))) (.cells 31 (jo ((ix d p false (x+1)).1))))]<|.nil)) ah)
  (fun hx=>by
    exact iB (chain [tT 19 ((((N+1):Nat):Int)<(n:Int)) ae,tB 22 (by simpa using hN:(((ix d p false N).2)==0)=false)]<|.nil) ah) ak:jq 3 Tryz.f272 (V4 d n N p 0) (.exit 0) ⟨35,true,[(9,.e (iP ((ix d p false N).2))),(8,.box 8 0),(6,.box 6 0)],[(8,.cells 31 (jo ((ix d p false N).1))),(6,.cells 31 [(bP false),(.v (.slice none 0 0)),(iP 0)])]⟩) (chain [.o 10 (.int rfl:PV.le (.e (iP 1)) (.e (iP (((0+1):Nat):Int)))),.o 9 (.int rfl:PV.le (.e (iP (jz d p false))) (.e (iP ((ix d p false 0).2)))),.b 8 (.iS rfl:Bx.le (.cells 31 (jo (jh d p false))) (.cells 31 (jo ((ix d p false 0).1))))]<|.nil)]<|.nil) ah 
theorem Dk(d:Dy)(n p:Nat)(hd:d.ib)(hn:1<=n)(j9:n<=16)(il:8<=p)(ic:p<=512):gV 272 [(gY d),(iP n),(iP p)] (.iw [gY (ix d p false (n-1)).1,iP (ix d p false (n-1)).2]):=by
 by_cases h:∃ x,x<n-1/\decide ((ix d p false x).2≠0)=true
 .obtain ⟨N,h1,h2,h3⟩:=qB h
  have hN:(ix d p false N).2≠0:=ct h2;have:=aix d n N p hd hn j9 il ic h1 (fun x hx=>by simpa using h3 x hx) hN;have e:=FC d p false N hN (n-1-N);rw[show N+(n-1-N)=n-1 by omega]at e;rw[e];exact this
 .exact aiw d n p hd hn j9 il ic fun x hx=>bE fun q=>h ⟨x,hx,aS q⟩
theorem aiy(d:Dy)(n p:Nat)(hd:d.ib)(hn:1<=n)(j9:n<=16)(il:8<=p)(ic:p<=512)(iH:∀ x,x<n-1->(ix d p true x).2=0):gV 273 [(gY d),(iP n),(iP p)] (.iw [gY (ix d p true (n-1)).1,iP (ix d p true (n-1)).2]):=by
 exact tr true Tryz.call273 Tryz.func273 (chain [.c (Jh d p true af ae ae),.s (Sp.jv (V5 d n p) 0 (n-1) ae (fun x hx kf=>by
    have mj:=iH x ae;have hv:=uf d (show 1<=p by omega) (show p<=4096 by omega) true x;exact iB (chain [tT 19 ((((x+1):Nat):Int)<(n:Int)) ae,tB 22 (by rw[mj];rfl:(((ix d p true x).2)==0)=true),.c (vi ((ix d p true x).1) d p true af af ae ae),
     iq ((((x+1):Nat):Int)+1) ae]<|.e (chain [.o 9 (.int (by rw[se mj];rfl):PV.le (.e (iP (jz (kI ((ix d p true x).1) d) p true))) (.e (iP ((ix d p true (x+1)).2)))),.b 8 (.iS (by rw[se mj];rfl):Bx.le (.cells 31 (jo (jh (kI ((ix d p true x).1) d) p true))) (.cells 31 (jo ((ix d p true (x+1)).1))))]<|.nil)) ah)
  (fun hx=>by
    exact iB (chain [tF 19 (((((n-1)+1):Nat):Int)<(n:Int)) ae]<|.nil) ah) ak:jq 3 Tryz.f273 (V5 d n p 0) (.exit 0) ⟨35,true,[(9,.e (iP ((ix d p true (n-1)).2))),(8,.box 8 0),(6,.box 6 0)],[(8,.cells 31 (jo ((ix d p true (n-1)).1))),(6,.cells 31 [(bP false),(.v (.slice none 0 0)),(iP 0)])]⟩) (chain [.o 10 (.int rfl:PV.le (.e (iP 1)) (.e (iP (((0+1):Nat):Int)))),.o 9 (.int rfl:PV.le (.e (iP (jz d p true))) (.e (iP ((ix d p true 0).2)))),.b 8 (.iS rfl:Bx.le (.cells 31 (jo (jh d p true))) (.cells 31 (jo ((ix d p true 0).1))))]<|.nil)]<|.nil) ah 
theorem aiz(d:Dy)(n N p:Nat)(hd:d.ib)(hn:1<=n)(j9:n<=16)(il:8<=p)(ic:p<=512)(mE:N<n-1)(iH:∀ x,x<N->(ix d p true x).2=0)(hN:(ix d p true N).2≠0):gV 273 [(gY d),(iP n),(iP p)] (.iw [gY (ix d p true N).1,iP (ix d p true N).2]):=by
 exact tr true Tryz.call273 Tryz.func273 (chain [.c (Jh d p true af ae ae),.s (Sp.jv (V6 d n N p) 0 N ae (fun x hx kf=>by
    have mj:=iH x ae;have hv:=uf d (show 1<=p by omega) (show p<=4096 by omega) true x;exact iB (chain [tT 19 ((((x+1):Nat):Int)<(n:Int)) ae,tB 22 (by rw[mj];rfl:(((ix d p true x).2)==0)=true),.c (vi ((ix d p true x).1) d p true af af ae ae),
     iq ((((x+1):Nat):Int)+1) ae]<|.e (chain [.o 9 (.int (by rw[se mj];rfl):PV.le (.e (iP (jz (kI ((ix d p true x).1) d) p true))) (.e (iP ((ix d p true (x+1)).2)))),.b 8 (.iS (by rw[se mj];rfl):Bx.le (.cells 31 (jo (jh (kI ((ix d p true x).1) d) p true))) (.cells 31 (jo ((ix d p true (x+1)).1))))]<|.nil)) ah)
  (fun hx=>by
    exact iB (chain [tT 19 ((((N+1):Nat):Int)<(n:Int)) ae,tB 22 (by simpa using hN:(((ix d p true N).2)==0)=false)]<|.nil) ah) ak:jq 3 Tryz.f273 (V6 d n N p 0) (.exit 0) ⟨35,true,[(9,.e (iP ((ix d p true N).2))),(8,.box 8 0),(6,.box 6 0)],[(8,.cells 31 (jo ((ix d p true N).1))),(6,.cells 31 [(bP false),(.v (.slice none 0 0)),(iP 0)])]⟩) (chain [.o 10 (.int rfl:PV.le (.e (iP 1)) (.e (iP (((0+1):Nat):Int)))),.o 9 (.int rfl:PV.le (.e (iP (jz d p true))) (.e (iP ((ix d p true 0).2)))),.b 8 (.iS rfl:Bx.le (.cells 31 (jo (jh d p true))) (.cells 31 (jo ((ix d p true 0).1))))]<|.nil)]<|.nil) ah 
theorem Dl(d:Dy)(n p:Nat)(hd:d.ib)(hn:1<=n)(j9:n<=16)(il:8<=p)(ic:p<=512):gV 273 [(gY d),(iP n),(iP p)] (.iw [gY (ix d p true (n-1)).1,iP (ix d p true (n-1)).2]):=by
 by_cases h:∃ x,x<n-1/\decide ((ix d p true x).2≠0)=true
 .obtain ⟨N,h1,h2,h3⟩:=qB h
  have hN:(ix d p true N).2≠0:=ct h2;have:=aiz d n N p hd hn j9 il ic h1 (fun x hx=>by simpa using h3 x hx) hN;have e:=FC d p true N hN (n-1-N);rw[show N+(n-1-N)=n-1 by omega]at e;rw[e];exact this
 .exact aiy d n p hd hn j9 il ic fun x hx=>bE fun q=>h ⟨x,hx,aS q⟩
theorem aiA(x:Iv)(n p:Nat)(hx:x.ib)(ha:x.all=true)(hn:n<=16)(il:8<=p)(ic:p<=512):gV 227 [(gZ x),(iP n),(iP p)] (gZ (mg x n p)):=by
 exact tr true Tryz.call227 Tryz.func227 (chain [.c (BM (p:Int)),tB 13 (oZ.2 ⟨ae,ae⟩:(lh (p:Int))=true),.c (ug x af),tB 17 (by rw[ha];rfl:(!x.all)=false),.c oF]<|rQ (gZ ie) (gZ (mg x n p)) (by unfold mg;rw[aR ha])) ah 
theorem aiE(x:Iv)(n p:Nat)(hx:x.ib)(ha:x.all=false)(h0:n=0)(il:8<=p)(ic:p<=512):gV 227 [(gZ x),(iP n),(iP p)] (gZ (mg x n p)):=by
 exact tr true Tryz.call227 Tryz.func227 (chain [.c (BM (p:Int)),tB 13 (oZ.2 ⟨ae,ae⟩:(lh (p:Int))=true),.c (ug x af),tB 17 (by rw[ha];rfl:(!x.all)=true),tF 22 ((n:Int)<0) ae,tF 26 (16<(n:Int)) ae,tB 30 (rM h0:((n:Int)==0)=true),.c (WE _ ag:gV 81 [(iP 1)] _),.c (aiu (canon false 1 0))]<|rQ (gZ (me (canon false 1 0))) (gZ (mg x n p)) (by unfold mg;rw[aQ (by rw[ha];decide),aR h0,Nn])) ah 
theorem aiB(x:Iv)(n p:Nat)(hx:x.ib)(ha:x.all=false)(h0:n≠0)(hn:n<=16)(he:n%2=0)(il:8<=p)(ic:p<=512):gV 227 [(gZ x),(iP n),(iP p)] (gZ (mg x n p)):=by
 have va:=DO hx;obtain⟨w1,w2⟩:=va.jZ;exact tr true Tryz.call227 Tryz.func227 (chain [.c (BM (p:Int)),tB 13 (oZ.2 ⟨ae,ae⟩:(lh (p:Int))=true),.c (ug x af),tB 17 (by rw[ha];rfl:(!x.all)=true),tF 22 ((n:Int)<0) ae,tF 26 (16<(n:Int)) ae,tB 30 (nj h0:((n:Int)==0)=false),.a (ae:0<(2:Int)),.o 35 (.int (by rw[gJ ae];omega):PV.le (.e (iP (Int.tmod (n:Int) 2))) (.e (iP (((n%2):Nat):Int)))),tB 36 (rM he:((((n%2):Nat):Int)==0)=true),.c (aip x af),.c (Dk ((iW x).lo) n p af ae ae ae ae),.c (vk _:gV 47 [(gY ((iW x).lo))] _)]<|.w ((Dy.iK ((iW x).lo))<0)
  (fun k1=>chain [tB 50 (aS k1),.c (rO _:gV 99 [(gY ((iW x).lo))] _),.c (Dl (iF ((iW x).lo)) n p (qj af) ae ae ae ae),.c (rO _:gV 99 [(gY ((ix (iF ((iW x).lo)) p true (n-1)).1))] _),.c (Dl ((iW x).hi) n p af ae ae ae ae),.c (vk _:gV 47 [(gY ((iW x).hi))] _)]<|.w ((Dy.iK ((iW x).hi))<0)
   (fun k2=>chain [tB 73 (aS k2),.c (rO _:gV 99 [(gY ((iW x).hi))] _),.c (Dk (iF ((iW x).hi)) n p (qj af) ae ae ae ae),.c (rO _:gV 99 [(gY ((ix (iF ((iW x).hi)) p false (n-1)).1))] _),.c (yO (iF ((ix (iF ((iW x).lo)) p true (n-1)).1)) (iF ((ix (iF ((iW x).hi)) p false (n-1)).1)) ((ix (iF ((iW x).lo)) p true (n-1)).2) ((ix (iF ((iW x).hi)) p false (n-1)).2))]<|rQ (gZ (kE (iF ((ix (iF ((iW x).lo)) p true (n-1)).1)) ((ix (iF ((iW x).lo)) p true (n-1)).2) (iF ((ix (iF ((iW x).hi)) p false (n-1)).1)) ((ix (iF ((iW x).hi)) p false (n-1)).2))) (gZ (mg x n p)) (by unfold mg qk;rw[aQ (by rw[ha];decide),aQ h0];rw[aR he];unfold kP;(rw[aR k1,aR k2])<;>rfl))
   (fun k2=>chain [tB 73 (aT k2),.c (yO (iF ((ix (iF ((iW x).lo)) p true (n-1)).1)) ((ix ((iW x).hi) p true (n-1)).1) ((ix (iF ((iW x).lo)) p true (n-1)).2) ((ix ((iW x).hi) p true (n-1)).2))]<|rQ (gZ (kE (iF ((ix (iF ((iW x).lo)) p true (n-1)).1)) ((ix (iF ((iW x).lo)) p true (n-1)).2) ((ix ((iW x).hi) p true (n-1)).1) ((ix ((iW x).hi) p true (n-1)).2))) (gZ (mg x n p)) (by unfold mg qk;rw[aQ (by rw[ha];decide),aQ h0];rw[aR he];unfold kP;(rw[aR k1,aQ k2])<;>rfl)))
  (fun k1=>chain [tB 50 (aT k1),.c (Dl ((iW x).hi) n p af ae ae ae ae),.c (vk _:gV 47 [(gY ((iW x).hi))] _)]<|.w ((Dy.iK ((iW x).hi))<0)
   (fun k2=>chain [tB 73 (aS k2),.c (rO _:gV 99 [(gY ((iW x).hi))] _),.c (Dk (iF ((iW x).hi)) n p (qj af) ae ae ae ae),.c (rO _:gV 99 [(gY ((ix (iF ((iW x).hi)) p false (n-1)).1))] _),.c (yO ((ix ((iW x).lo) p false (n-1)).1) (iF ((ix (iF ((iW x).hi)) p false (n-1)).1)) ((ix ((iW x).lo) p false (n-1)).2) ((ix (iF ((iW x).hi)) p false (n-1)).2))]<|rQ (gZ (kE ((ix ((iW x).lo) p false (n-1)).1) ((ix ((iW x).lo) p false (n-1)).2) (iF ((ix (iF ((iW x).hi)) p false (n-1)).1)) ((ix (iF ((iW x).hi)) p false (n-1)).2))) (gZ (mg x n p)) (by unfold mg qk;rw[aQ (by rw[ha];decide),aQ h0];rw[aR he];unfold kP;(rw[aQ k1,aR k2])<;>rfl))
   (fun k2=>chain [tB 73 (aT k2),.c (yO ((ix ((iW x).lo) p false (n-1)).1) ((ix ((iW x).hi) p true (n-1)).1) ((ix ((iW x).lo) p false (n-1)).2) ((ix ((iW x).hi) p true (n-1)).2))]<|rQ (gZ (kE ((ix ((iW x).lo) p false (n-1)).1) ((ix ((iW x).lo) p false (n-1)).2) ((ix ((iW x).hi) p true (n-1)).1) ((ix ((iW x).hi) p true (n-1)).2))) (gZ (mg x n p)) (by unfold mg qk;rw[aQ (by rw[ha];decide),aQ h0];rw[aR he];unfold kP;(rw[aQ k1,aQ k2])<;>rfl)))) ah 
theorem aiC(x:Iv)(n p:Nat)(hx:x.ib)(ha:x.all=false)(h0:n≠0)(hn:n<=16)(he:¬n%2=0)(il:8<=p)(ic:p<=512):gV 227 [(gZ x),(iP n),(iP p)] (gZ (mg x n p)):=by
 have va:=hx;obtain⟨w1,w2⟩:=va.jZ;exact tr true Tryz.call227 Tryz.func227 (chain [.c (BM (p:Int)),tB 13 (oZ.2 ⟨ae,ae⟩:(lh (p:Int))=true),.c (ug x af),tB 17 (by rw[ha];rfl:(!x.all)=true),tF 22 ((n:Int)<0) ae,tF 26 (16<(n:Int)) ae,tB 30 (nj h0:((n:Int)==0)=false),.a (ae:0<(2:Int)),.o 35 (.int (by rw[gJ ae];omega):PV.le (.e (iP (Int.tmod (n:Int) 2))) (.e (iP (((n%2):Nat):Int)))),tB 36 (nj he:((((n%2):Nat):Int)==0)=false),.c (Dk x.lo n p af ae ae ae ae),.c (vk _:gV 47 [(gY x.lo)] _)]<|.w ((Dy.iK x.lo)<0)
  (fun k1=>chain [tB 50 (aS k1),.c (rO _:gV 99 [(gY x.lo)] _),.c (Dl (iF x.lo) n p (qj af) ae ae ae ae),.c (rO _:gV 99 [(gY ((ix (iF x.lo) p true (n-1)).1))] _),.c (Dl x.hi n p af ae ae ae ae),.c (vk _:gV 47 [(gY x.hi)] _)]<|.w ((Dy.iK x.hi)<0)
   (fun k2=>chain [tB 73 (aS k2),.c (rO _:gV 99 [(gY x.hi)] _),.c (Dk (iF x.hi) n p (qj af) ae ae ae ae),.c (rO _:gV 99 [(gY ((ix (iF x.hi) p false (n-1)).1))] _),.c (yO (iF ((ix (iF x.lo) p true (n-1)).1)) (iF ((ix (iF x.hi) p false (n-1)).1)) ((ix (iF x.lo) p true (n-1)).2) ((ix (iF x.hi) p false (n-1)).2))]<|rQ (gZ (kE (iF ((ix (iF x.lo) p true (n-1)).1)) ((ix (iF x.lo) p true (n-1)).2) (iF ((ix (iF x.hi) p false (n-1)).1)) ((ix (iF x.hi) p false (n-1)).2))) (gZ (mg x n p)) (by unfold mg qk;rw[aQ (by rw[ha];decide),aQ h0];rw[aQ he];unfold kP;(rw[aR k1,aR k2])<;>rfl))
   (fun k2=>chain [tB 73 (aT k2),.c (yO (iF ((ix (iF x.lo) p true (n-1)).1)) ((ix x.hi p true (n-1)).1) ((ix (iF x.lo) p true (n-1)).2) ((ix x.hi p true (n-1)).2))]<|rQ (gZ (kE (iF ((ix (iF x.lo) p true (n-1)).1)) ((ix (iF x.lo) p true (n-1)).2) ((ix x.hi p true (n-1)).1) ((ix x.hi p true (n-1)).2))) (gZ (mg x n p)) (by unfold mg qk;rw[aQ (by rw[ha];decide),aQ h0];rw[aQ he];unfold kP;(rw[aR k1,aQ k2])<;>rfl)))
  (fun k1=>chain [tB 50 (aT k1),.c (Dl x.hi n p af ae ae ae ae),.c (vk _:gV 47 [(gY x.hi)] _)]<|.w ((Dy.iK x.hi)<0)
   (fun k2=>chain [tB 73 (aS k2),.c (rO _:gV 99 [(gY x.hi)] _),.c (Dk (iF x.hi) n p (qj af) ae ae ae ae),.c (rO _:gV 99 [(gY ((ix (iF x.hi) p false (n-1)).1))] _),.c (yO ((ix x.lo p false (n-1)).1) (iF ((ix (iF x.hi) p false (n-1)).1)) ((ix x.lo p false (n-1)).2) ((ix (iF x.hi) p false (n-1)).2))]<|rQ (gZ (kE ((ix x.lo p false (n-1)).1) ((ix x.lo p false (n-1)).2) (iF ((ix (iF x.hi) p false (n-1)).1)) ((ix (iF x.hi) p false (n-1)).2))) (gZ (mg x n p)) (by unfold mg qk;rw[aQ (by rw[ha];decide),aQ h0];rw[aQ he];unfold kP;(rw[aQ k1,aR k2])<;>rfl))
   (fun k2=>chain [tB 73 (aT k2),.c (yO ((ix x.lo p false (n-1)).1) ((ix x.hi p true (n-1)).1) ((ix x.lo p false (n-1)).2) ((ix x.hi p true (n-1)).2))]<|rQ (gZ (kE ((ix x.lo p false (n-1)).1) ((ix x.lo p false (n-1)).2) ((ix x.hi p true (n-1)).1) ((ix x.hi p true (n-1)).2))) (gZ (mg x n p)) (by unfold mg qk;rw[aQ (by rw[ha];decide),aQ h0];rw[aQ he];unfold kP;(rw[aQ k1,aQ k2])<;>rfl)))) ah 
theorem aiD(x:Iv)(n p:Nat)(hx:x.ib)(hn:n<=16)(il:8<=p)(ic:p<=512):gV 227 [gZ x,iP (n:Int),iP (p:Int)] (gZ (mg x n p)):=by
 cases ha:x.all with
 |true=>exact aiA x n p hx ha hn il ic
 |false=>
  by_cases h0:n=0
  .exact aiE x n p hx ha h0 il ic
  .by_cases he:n%2=0
   .exact aiB x n p hx ha h0 hn he il ic
   .exact aiC x n p hx ha h0 hn he il ic
theorem Y3(o:mV)(x y:Iv)(p:Nat)(hx:x.ib)(hy:y.ib)(r1:3<=o.kind)(r2:o.kind<=8)(r3:o.n<=16)(il:8<=p)(ic:p<=512):gV 186 [(iP o.kind),(iP o.n),(gZ x),(gZ y),(iP p)] (gZ (kG o x y p)):=by
 exact tr true Tryz.call186 Tryz.func186 (.w ((o.kind:Int)=3)
  (fun k1=>chain [tB 13 (aK k1),.c (FH x y p af af ae ae)]<|rQ (gZ (jj x y p)) (gZ (kG o x y p)) (by unfold kG;simp[show o.kind=3 from ae]))
  (fun k1=>chain [tB 13 (aJ k1)]<|.w ((o.kind:Int)=4)
   (fun k2=>chain [tB 19 (aK k2),.c (aiv x y p af af ae ae)]<|rQ (gZ (FY x y p)) (gZ (kG o x y p)) (by unfold kG;simp[show ¬o.kind=3 from ae,show o.kind=4 from ae]))
   (fun k2=>chain [tB 19 (aJ k2)]<|.w ((o.kind:Int)=5)
    (fun k3=>chain [tB 25 (aK k3),.c (Ji x y p af af ae ae)]<|rQ (gZ (iN x y p)) (gZ (kG o x y p)) (by unfold kG;simp[show ¬o.kind=3 from ae,show ¬o.kind=4 from ae,show o.kind=5 from ae]))
    (fun k3=>chain [tB 25 (aJ k3)]<|.w ((o.kind:Int)=6)
     (fun k4=>chain [tB 31 (aK k4),.c (aiq x y p af af ae ae)]<|rQ (gZ (jS x y p)) (gZ (kG o x y p)) (by unfold kG;simp[show ¬o.kind=3 from ae,show ¬o.kind=4 from ae,show ¬o.kind=5 from ae,show o.kind=6 from ae]))
     (fun k4=>chain [tB 31 (aJ k4)]<|.w ((o.kind:Int)=7)
      (fun k5=>chain [tB 37 (aK k5),.c (V0 x af)]<|rQ (gZ (qD x)) (gZ (kG o x y p)) (by unfold kG;simp[show ¬o.kind=3 from ae,show ¬o.kind=4 from ae,show ¬o.kind=5 from ae,show ¬o.kind=6 from ae,show o.kind=7 from ae]))
      (fun k5=>chain [tB 37 (aJ k5)]<|.w ((o.kind:Int)=8)
       (fun k6=>chain [tB 41 (aK k6),.c (aiD _ _ _ af ae ae ae:gV 227 [(gZ x),(iP o.n),(iP p)] _)]<|rQ (gZ (mg x o.n p)) (gZ (kG o x y p)) (by unfold kG;simp[show ¬o.kind=3 from ae,show ¬o.kind=4 from ae,show ¬o.kind=5 from ae,show ¬o.kind=6 from ae,show ¬o.kind=7 from ae,show o.kind=8 from ae]))
       (fun k6=>.x ae))))))) ah 
theorem YX{o:mV}(h:¬o.kind<=6)(x y z:Iv)(p:Nat):kG o x y p=kG o x z p:=by
 unfold kG;have h3:¬o.kind=3:= ae ;have h4:¬o.kind=4:= ae ;have h5:¬o.kind=5:= ae ;have h6:¬o.kind=6:= ae ;rw[aQ h3,aQ h4,aQ h5,aQ h6,aQ h3,aQ h4,aQ h5,aQ h6]
theorem YZ{o:mV}(h:o.kind≠1)(l:List Iv)(p:Nat):ss o l p=kG o (l.getD o.a ie) (l.getD o.b ie) p:=by
 unfold ss GG;rw[aQ h];by_cases h6:o.kind<=6
 .rw [aS h6];rfl
 .rw [aT h6];exact YX h6 _ _ _ _
theorem nn.ZJ{o:mV}{m:Nat}(h:nn o m)(hm:1<=m):o.b<m:=by
 have:=h.b;split at this<;>omega
theorem afk{a q:List Iv}:E.le (.sl true (0+a.length+q.length) 7 fun i j=>if i<0+a.length then(fun i_ j_=>if i_<0 then(fun i_ j_=>([]:List E).getD (i_*7+j_) (.v (.bool false))) i_ j_ else(E.lZ (ik a)) (i_-0) j_) i j else(E.lZ (ik q)) (i-(0+a.length)) j) (ik (a++q)):=by
 have e:ik (a++q) = .sl true (0+a.length+q.length) 7 (ki (a++q)):=by unfold ik;rw[cg,bX]
 rw[e];refine .sl fun i j hi hj=>⟨.iS ?_,C1 _ _ hj⟩
 rw[bX];by_cases h:i<a.length
 .rw [aR h]
  show(iY (a.getD i ie)).getD j .any=(iY ((a++q).getD i ie)).getD j .any;congr 2;simp[aW,en h]
 .rw [aQ h]
  show(iY (q.getD (i-a.length) ie)).getD j .any=(iY ((a++q).getD i ie)).getD j .any;congr 2;simp[aW,eV (show a.length<=i by omega)]
theorem YT(t:pg)(xs:List Iv)(p:Nat)(h:ze t)(hr:wI t)(h1:1<=xs.length)(hx:xs.length=t.im)(hv:ph xs)(il:8<=p)(ic:p<=512):gV 152 [(yW t),(ik xs),(iP p)] (ik (iQ t.gW xs p t.gW.length)):=by
 have h8:=h.im;have Bi:=h.gW;exact tr true Tryz.call152 Tryz.func152 (chain [.bo,.a (ae:(0+xs.length)*88<=140737488355328),.s (Sp.jv (Ph t xs p) 0 t.gW.length ae (fun x hx kf=>by
    have iE:=h.op x ae;have tW:=Ga t.gW hv (show 1<=p by omega) (show p<=4096 by omega) x;have Ma:=F8 t.gW xs p x;have w1:=tW ((t.gW.getD x iR)).a;by_cases oe:((t.gW.getD x iR)).kind=1
    .have qV:((t.gW.getD x iR)).kind=1:=oe
     obtain⟨o1,o2,o3,rY⟩:=iE.num qV;have wb:ss (t.gW.getD x iR) (iQ t.gW xs p x) p=(nF (t.gW.getD x iR).cn (t.gW.getD x iR).cd p):=by unfold ss;rw[aR qV]
     have tN:=th (nF (t.gW.getD x iR).cn (t.gW.getD x iR).cd p);exact iB (chain [tT 17 ((x:Int)<(t.gW.length:Int)) ae,iX ((x:Int)) (t.gW.length) ae,tB 27 (aK ae:(((t.gW.getD x iR).kind:Int)==1)=true),.c (ab6 _ _ _ af ae ae:gV 185 [(.agg [(iP ((t.gW.getD x iR).cn)),(iP ((t.gW.getD x iR).cd))]),(iP p)] _),.o 33 (.e (mz _):PV.le (.e (.sl true 1 7 fun i_ j_=>(iY (nF ((t.gW.getD x iR).cn) ((t.gW.getD x iR).cd) p)).getD (i_*7+j_) (.v (.bool false)))) (.e (ik [(nF ((t.gW.getD x iR).cn) ((t.gW.getD x iR).cd) p)]))),.a (ae:((iQ t.gW xs p x).length+[(nF ((t.gW.getD x iR).cn) ((t.gW.getD x iR).cd) p)].length)*88<=140737488355328),iq ((x:Int)+1) ae]<|.e (chain [.b 10 (F9 rfl rfl wb:Bx.le (.row true 41 ((iQ t.gW xs p x).length+[(nF ((t.gW.getD x iR).cn) ((t.gW.getD x iR).cd) p)].length) 7 (fun i_ j_=>if i_<(iQ t.gW xs p x).length then(ki (iQ t.gW xs p x)) i_ j_ else(E.lZ (ik [(nF ((t.gW.getD x iR).cn) ((t.gW.getD x iR).cd) p)])) (i_-(iQ t.gW xs p x).length) j_)) (.row true 41 ((iQ t.gW xs p (x+1)).length) 7 (ki (iQ t.gW xs p (x+1)))))]<|.nil)) ah 
    .have yd:((t.gW.getD x iR)).kind≠1:=oe
     have wb:ss (t.gW.getD x iR) (iQ t.gW xs p x) p=(kG (t.gW.getD x iR) ((iQ t.gW xs p x).getD ((t.gW.getD x iR).a) ie) ((iQ t.gW xs p x).getD ((t.gW.getD x iR).b) ie) p):=YZ yd _ _;have hk3:=iE.k3.resolve_left yd;have tH:=hr x;have oa:=iE.O8 yd;have ob:=iE.ZJ ae;have w2:=tW ((t.gW.getD x iR)).b;have o8:=Vo iE;have tN:=th (kG (t.gW.getD x iR) ((iQ t.gW xs p x).getD ((t.gW.getD x iR).a) ie) ((iQ t.gW xs p x).getD ((t.gW.getD x iR).b) ie) p);exact iB (chain [tT 17 ((x:Int)<(t.gW.length:Int)) ae,iX ((x:Int)) (t.gW.length) ae,tB 27 (aJ ae:(((t.gW.getD x iR).kind:Int)==1)=false),
      iX (((t.gW.getD x iR).a:Int)) ((iQ t.gW xs p x).length) ae,.a (ae:(t.gW.getD x iR).a<(iQ t.gW xs p x).length),iX (((t.gW.getD x iR).b:Int)) ((iQ t.gW xs p x).length) ae,.a (ae:(t.gW.getD x iR).b<(iQ t.gW xs p x).length),.c (Y3 (t.gW.getD x iR) _ _ _ w1 w2 ae ae ae ae ae:gV 186 [(iP ((t.gW.getD x iR).kind:Int)),(iP ((t.gW.getD x iR).n:Int)),(gZ ((iQ t.gW xs p x).getD (t.gW.getD x iR).a ie)),(gZ ((iQ t.gW xs p x).getD (t.gW.getD x iR).b ie)),(iP p)] _),.o 52 (.e (mz _):PV.le (.e (.sl true 1 7 fun i_ j_=>(iY (kG (t.gW.getD x iR) ((iQ t.gW xs p x).getD (t.gW.getD x iR).a ie) ((iQ t.gW xs p x).getD (t.gW.getD x iR).b ie) p)).getD (i_*7+j_) (.v (.bool false)))) (.e (ik [(kG (t.gW.getD x iR) ((iQ t.gW xs p x).getD (t.gW.getD x iR).a ie) ((iQ t.gW xs p x).getD (t.gW.getD x iR).b ie) p)]))),.a (ae:((iQ t.gW xs p x).length+[(kG (t.gW.getD x iR) ((iQ t.gW xs p x).getD (t.gW.getD x iR).a ie) ((iQ t.gW xs p x).getD (t.gW.getD x iR).b ie) p)].length)*88<=140737488355328),
      iq ((x:Int)+1) ae]<|.e (chain [.b 10 (F9 rfl rfl wb:Bx.le (.row true 41 ((iQ t.gW xs p x).length+[(kG (t.gW.getD x iR) ((iQ t.gW xs p x).getD (t.gW.getD x iR).a ie) ((iQ t.gW xs p x).getD (t.gW.getD x iR).b ie) p)].length) 7 (fun i_ j_=>if i_<(iQ t.gW xs p x).length then(ki (iQ t.gW xs p x)) i_ j_ else(E.lZ (ik [(kG (t.gW.getD x iR) ((iQ t.gW xs p x).getD (t.gW.getD x iR).a ie) ((iQ t.gW xs p x).getD (t.gW.getD x iR).b ie) p)])) (i_-(iQ t.gW xs p x).length) j_)) (.row true 41 ((iQ t.gW xs p (x+1)).length) 7 (ki (iQ t.gW xs p (x+1)))))]<|.nil)) ah)
  (fun hx=>by
    exact iB (chain [tF 17 ((t.gW.length:Int)<(t.gW.length:Int)) ae,.z 10]<|.e (chain [.o 7 (.e (Ag aj):PV.le (.e (.sl true ((iQ t.gW xs p t.gW.length).length) 7 (ki (iQ t.gW xs p t.gW.length)))) (.e (ik (iQ t.gW xs p t.gW.length))))]<|.nil)) ah) ak:jq 3 Tryz.f152 (Ph t xs p 0) (.exit 0) ⟨55,true,[(7,.e (ik (iQ t.gW xs p t.gW.length)))],[]⟩) (chain [.b 10 (Qa rfl fun i j hi hj=>⟨rfl,C1 _ _ hj⟩:Bx.le (.row true 41 (0+xs.length) 7 (fun i_ j_=>if i_<0 then(fun i_ j_=>([]:List E).getD (i_*7+j_) (.v (.bool false))) i_ j_ else(E.lZ (ik xs)) (i_-0) j_)) (.row true 41 ((iQ t.gW xs p 0).length) 7 (ki (iQ t.gW xs p 0))))]<|.nil)]<|.nil) ah 
theorem TN(s:lM)(b:List Iv)(h1:b.length<=400)(h2:s.params.length<=400):gV 104 [(jF s),(ik b)] (ik (b++s.params)):=by
 exact tr true Tryz.call104 Tryz.func104 (chain [.bo,.a (ae:(0+b.length)*88<=140737488355328),.a (ae:((0+b.length)+s.params.length)*88<=140737488355328)]<|rR (ik (b++s.params)) (afk:E.le (.sl true ((0+b.length)+s.params.length) 7 (fun i_ j_=>if i_<(0+b.length)then(fun i_ j_=>if i_<0 then(fun i_ j_=>([]:List E).getD (i_*7+j_) (.v (.bool false))) i_ j_ else(E.lZ (ik b)) (i_-0) j_) i_ j_ else(E.lZ (ik s.params)) (i_-(0+b.length)) j_)) (ik (b++s.params)))) ah 
theorem XP(t:pg)(xs:List Iv)(p:Nat)(h:ze t)(hr:wI t)(h1:1<=xs.length)(hx:xs.length=t.im)(hv:ph xs)(il:8<=p)(ic:p<=512):gV 103 [(yW t),(ik xs),(iP 0),(iP p)] (.iw [ik (je t xs p),pW (List.replicate t.ig.length [])]):=by
 have h8:=h.im;have Bi:=h.gW;have mS:=h.ig;exact tr true Tryz.call103 Tryz.func103 (chain [.c (YT t xs p h hr h1 hx hv ae ae),.a (ae:0<=((t.ig.length:Int):Int)/\((t.ig.length:Int):Int)<=((t.ig.length:Int):Int)),.a (ae:((24:Nat):Int)*(t.ig.length:Int)<=281474976710656/\((t.ig.length:Int):Int)<=9223372036854775807),.y 11 11 true 41 7 (ki ((List.range 0).map (fun j_=>(iQ t.gW xs p t.gW.length).getD (t.ig.getD j_ 0) ie))),.s (Sp.jv (XN t xs p) 0 t.ig.length ae (fun x hx kf=>by
    have hot:=h.out x ae;have Ma:=F8 t.gW xs p t.gW.length;have tN:=th ((iQ t.gW xs p t.gW.length).getD (t.ig.getD x 0) ie);exact iB (chain [tT 29 ((x:Int)<(t.ig.length:Int)) ae,iX ((x:Int)) (t.ig.length) ae,iX ((t.ig.getD x 0:Int)) ((iQ t.gW xs p t.gW.length).length) ae,.o 41 (.e (mz _):PV.le (.e (.sl true 1 7 fun i_ j_=>(iY ((iQ t.gW xs p t.gW.length).getD (t.ig.getD x 0) ie)).getD (i_*7+j_) (.v (.bool false)))) (.e (ik [((iQ t.gW xs p t.gW.length).getD (t.ig.getD x 0) ie)]))),.a (ae:(x+[((iQ t.gW xs p t.gW.length).getD (t.ig.getD x 0) ie)].length)*88<=140737488355328),iq ((x:Int)+1) ae]<|.e (chain [.b 11 (yB rfl rfl rfl:Bx.le (.row true 41 (x+[((iQ t.gW xs p t.gW.length).getD (t.ig.getD x 0) ie)].length) 7 (fun i_ j_=>if i_<x then(ki ((List.range x).map (fun j_=>(iQ t.gW xs p t.gW.length).getD (t.ig.getD j_ 0) ie))) i_ j_ else(E.lZ (ik [((iQ t.gW xs p t.gW.length).getD (t.ig.getD x 0) ie)])) (i_-x) j_)) (.row true 41 (x+1) 7 (ki ((List.range (x+1)).map (fun j_=>(iQ t.gW xs p t.gW.length).getD (t.ig.getD j_ 0) ie)))))]<|.nil)) ah)
  (fun hx=>by
    exact iB (chain [tF 29 ((t.ig.length:Int)<(t.ig.length:Int)) ae,.z 11]<|.e (chain [.o 11 (.e (Ag aj):PV.le (.e (.sl true t.ig.length 7 (ki ((List.range t.ig.length).map (fun j_=>(iQ t.gW xs p t.gW.length).getD (t.ig.getD j_ 0) ie))))) (.e (ik ((List.range t.ig.length).map (fun j_=>(iQ t.gW xs p t.gW.length).getD (t.ig.getD j_ 0) ie)))))]<|.nil)) ah) ak:jq 5 Tryz.f103 (XN t xs p 0) (.exit 0) ⟨79,true,[(11,.e (ik ((List.range t.ig.length).map (fun j_=>(iQ t.gW xs p t.gW.length).getD (t.ig.getD j_ 0) ie)))),(12,.own 24),(10,.e (ik (iQ t.gW xs p t.gW.length))),(4,.box 4 0),(2,.e (iP 0)),(3,.e (iP p))],[(24,.qa true 26 41 t.ig.length 7 (fun _=>0) (fun _ _ _=>.any) .none),(4,.cells 25 [(iP t.im),(nW t.gW),(nV t.ig)])]⟩) .nil,.s (Sp.jv (XO t xs p) 0 0 ae (fun x hx kf=>by
    exact absurd kf (bj _))
  (fun hx=>by
    exact iB (chain [tB 45 (ag:(decide ((0:Int)<0))=false)]<|.nil) ah) ak:jq 9 Tryz.f103 (XO t xs p 0) (.exit 2) ⟨79,true,[(11,.e (ik ((List.range t.ig.length).map (fun j_=>(iQ t.gW xs p t.gW.length).getD (t.ig.getD j_ 0) ie)))),(12,.own 24)],[(24,.qa true 26 41 t.ig.length 7 (fun _=>0) (fun _ _ _=>.any) .none)]⟩) .nil]<|rR (.iw [ik (je t xs p),pW (List.replicate t.ig.length [])]) (.iw (.cons (.iS (by rw[RF])) (.cons WR .nil)):E.le (.iw [(ik ((List.range t.ig.length).map (fun j_=>(iQ t.gW xs p t.gW.length).getD (t.ig.getD j_ 0) ie))),(.sl true t.ig.length 1 fun k_ _=>.sl true ((fun _=>0) k_) 7 ((fun _ _ _=>.any) k_))]) (.iw [ik (je t xs p),pW (List.replicate t.ig.length [])]))) ah 
theorem akD(l:List Iv)(hl:l.length<=1000)(N:Nat)(mE:N<l.length)(iH:∀ i,i<N->(l.getD i ie).all=false)(hN:(l.getD N ie).all=true):gV 105 [(ik l)] (bP true):=by
 exact tr true Tryz.call105 Tryz.func105 (chain [.s (Sp.jv (Xr l N) 0 N ae (fun i hi pG=>by
    exact iB (chain [tT 7 ((i:Int)<(l.length:Int)) ae,iX ((i:Int)) (l.length) ae,tB 14 (iH i ae:(l.getD i ie).all=false),iq ((i:Int)+1) ae]<|.nil) ah)
  (fun hi=>by
    exact iB (chain [tT 7 ((N:Int)<(l.length:Int)) ae,iX ((N:Int)) (l.length) ae,tB 14 (hN:(l.getD N ie).all=true)]<|.nil) ah) ak:jq 2 Tryz.f105 (Xr l N 0) .ret ⟨15,true,[(2,.e (bP true))],[]⟩) .nil]<|.nil) ah 
theorem akC(l:List Iv)(hl:l.length<=1000)(iH:∀ i,i<l.length->(l.getD i ie).all=false):gV 105 [(ik l)] (bP false):=by
 exact tr true Tryz.call105 Tryz.func105 (chain [.s (Sp.jv (Xq l) 0 l.length ae (fun i hi pG=>by
    exact iB (chain [tT 7 ((i:Int)<(l.length:Int)) ae,iX ((i:Int)) (l.length) ae,tB 14 (iH i ae:(l.getD i ie).all=false),iq ((i:Int)+1) ae]<|.nil) ah)
  (fun hi=>by
    exact iB (chain [tF 7 ((l.length:Int)<(l.length:Int)) ae]<|.nil) ah) ak:jq 2 Tryz.f105 (Xq l 0) (.exit 0) ⟨15,true,[],[]⟩) .nil]<|.nil) ah 
theorem Xs(l:List Iv)(hl:l.length<=1000):gV 105 [ik l] (bP (nd l)):=by
 cases h:nd l with
 |false=>exact akC l hl fun i hi=>by simpa using List.any_eq_false.1 h i (bI.2 hi)
 |true=>
  unfold nd at h;rw[di]at h;obtain⟨i,hi,hb⟩:=h;obtain⟨N,h1,h2,h3⟩:=qB (p:=fun i=>(l.getD i ie).all) ⟨i,bI.1 hi,hb⟩;exact akD l hl N h1 h3 h2
theorem RC(s:lM)(b:List Iv)(p:Nat)(iT:gV 15 [jF s,ik b] (bP true))(il:8<=p)(ic:p<=512):gV 102 [(jF s),(ik b),(iP p)] (iP 0):=by
 exact tr true Tryz.call102 Tryz.func102 (chain [.c (iT:gV 15 [(jF s),(ik b)] _),.c (NU _:gV 48 [(iP p)] _),tB 12 (oZ.2 ⟨ae,ae⟩:(lh (p:Int))=true)]<|.nil) ah 
theorem ac2(s:lM)(b:List Iv)(p:Nat)(h:nJ s)(hr:wI s.tape)(hb:kX s.iA b)(iT:gV 15 [jF s,ik b] (bP true))(il:8<=p)(ic:p<=512)(hn:nd (je s.tape (b++s.params) p)=true):gV 59 [(jF s),(ik b),(iP p)] (.iw [.v (.slice none 0 0),iP 11]):=by
 have s4:=h.s4;have p4:=h.p4;have CJ:=hb.len;have mS:=h.tape.ig;have wY:=zC s.tape (b++s.params) p;obtain⟨f1,f2,f3,f4⟩:=xL h hb;exact tr true Tryz.call59 Tryz.func59 (chain [.c (RC _ _ _ iT ae ae:gV 102 [(jF s),(ik b),(iP p)] _),tB 16 (ag:((0:Int) != 0)=false),.c (TN s b ae ae),.c (XP s.tape (b++s.params) p f1 hr f2 f3 f4 ae ae),.c (Xs _ ae:gV 105 [(ik (je s.tape (b++s.params) p))] _),tB 29 (hn:(nd (je s.tape (b++s.params) p))=true)]<|.nil) ah 
theorem RE(s:lM)(b:List Iv)(p:Nat)(h:nJ s)(hr:wI s.tape)(hb:kX s.iA b)(iT:gV 15 [jF s,ik b] (bP true))(il:8<=p)(ic:p<=512)(hn:nd (je s.tape (b++s.params) p)=false):gV 59 [(jF s),(ik b),(iP p)] (.iw [ik (je s.tape (b++s.params) p),iP 0]):=by
 have s4:=h.s4;have p4:=h.p4;have CJ:=hb.len;have mS:=h.tape.ig;have wY:=zC s.tape (b++s.params) p;obtain⟨f1,f2,f3,f4⟩:=xL h hb;exact tr true Tryz.call59 Tryz.func59 (chain [.c (RC _ _ _ iT ae ae:gV 102 [(jF s),(ik b),(iP p)] _),tB 16 (ag:((0:Int) != 0)=false),.c (TN s b ae ae),.c (XP s.tape (b++s.params) p f1 hr f2 f3 f4 ae ae),.c (Xs _ ae:gV 105 [(ik (je s.tape (b++s.params) p))] _),tB 29 (hn:(nd (je s.tape (b++s.params) p))=false)]<|.nil) ah 
theorem aeO(s:lM)(x:List Iv)(d:Dy)(b:List Iv)(p:Nat)(h:nJ s)(hx:kX s.iA x)(hd:d.ib)(h0:0<d.iK)(hb:kX s.iA b)(il:8<=p)(ic:p<=512)(hr:wI s.tape)(qx:gV 14 [jF s,ik x,gY d,iP (p:Int)] (bP true))(iT:gV 15 [jF s,ik b] (bP true))(hn:nd (je s.tape (b++s.params) p)=true):gV 22 [(jF s),(ik x),(gY d),(ik b),(iP p)] (.v (.slice none 0 0)):=by
 have s4:=h.s4;exact tr true Tryz.call22 Tryz.func22 (chain [.c (qx:gV 14 [(jF s),(ik x),(gY d),(iP p)] _),.c (iT:gV 15 [(jF s),(ik b)] _),.c (ac2 _ _ _ h hr hb iT il ic hn:gV 59 [(jF s),(ik b),(iP p)] _),tB 36 (ag:((11:Int) != 0)=true)]<|.nil) ah 
theorem aeP(s:lM)(x:List Iv)(d:Dy)(b:List Iv)(p:Nat)(h:nJ s)(hx:kX s.iA x)(hd:d.ib)(h0:0<d.iK)(hb:kX s.iA b)(il:8<=p)(ic:p<=512)(hr:wI s.tape)(qx:gV 14 [jF s,ik x,gY d,iP (p:Int)] (bP true))(iT:gV 15 [jF s,ik b] (bP true))(hn:nd (je s.tape (b++s.params) p)=false)(N:Nat)(mE:N<x.length)(iH:∀ i,i<N->(jj (x.getD i ie) (iN (jU d) ((je s.tape (b++s.params) p).getD i ie) p) p).all=false)(hN:(jj (x.getD N ie) (iN (jU d) ((je s.tape (b++s.params) p).getD N ie) p) p).all=true):gV 22 [(jF s),(ik x),(gY d),(ik b),(iP p)] (.v (.slice none 0 0)):=by
 have s4:=h.s4;have xd:=hx.len;have mS:=h.ig;have wY:=zC s.tape (b++s.params) p;obtain⟨f1,f2,f3,f4⟩:=xL h hb;have fv:=Ed s.tape f4 (show 1<=p by omega) (show p<=4096 by omega);have hq:0<d.q:=(qP d).1.1 h0;have Mm:=FX hd (bA hq);exact tr true Tryz.call22 Tryz.func22 (chain [.c (qx:gV 14 [(jF s),(ik x),(gY d),(iP p)] _),.c (iT:gV 15 [(jF s),(ik b)] _),.c (RE _ _ _ h hr hb iT il ic hn:gV 59 [(jF s),(ik b),(iP p)] _),tB 36 (ag:((0:Int) != 0)=false),.y 13 13 true 41 7 (ki ((List.range 0).map (fun j_=>(jj (x.getD j_ ie) (iN (jU d) ((je s.tape (b++s.params) p).getD j_ ie) p) p)))),.s (Sp.jv (TG s x d b p N) 0 N ae (fun i hi pG=>by
    have w1:=(hx.ok i ae).1;have w2:=fv i;have w3:=qC (jU d) ((je s.tape (b++s.params) p).getD i ie) (show 1<=p by omega) (show p<=4096 by omega);have tN:=th (jj (x.getD i ie) (iN (jU d) ((je s.tape (b++s.params) p).getD i ie) p) p);exact iB (chain [tT 40 ((i:Int)<(x.length:Int)) ae,iX ((i:Int)) (x.length) ae,.o 48 (.e (DB d):PV.le (.e (.agg ([(bP false),(.v (.slice none 0 0)),(iP 0)]++jo d++[(bP false)]))) (.e (gZ (jU d)))),iX ((i:Int)) ((je s.tape (b++s.params) p).length) ae,.c (Ji (jU d) ((je s.tape (b++s.params) p).getD i ie) p af af ae ae),.c (FH (x.getD i ie) (iN (jU d) ((je s.tape (b++s.params) p).getD i ie) p) p af (qC _ _ ae ae) ae ae),tB 58 (iH i ae:(jj (x.getD i ie) (iN (jU d) ((je s.tape (b++s.params) p).getD i ie) p) p).all=false),.o 61 (.e (mz _):PV.le (.e (.sl true 1 7 fun i_ j_=>(iY (jj (x.getD i ie) (iN (jU d) ((je s.tape (b++s.params) p).getD i ie) p) p)).getD (i_*7+j_) (.v (.bool false)))) (.e (ik [(jj (x.getD i ie) (iN (jU d) ((je s.tape (b++s.params) p).getD i ie) p) p)]))),.a (ae:(i+[(jj (x.getD i ie) (iN (jU d) ((je s.tape (b++s.params) p).getD i ie) p) p)].length)*88<=140737488355328),iq ((i:Int)+1) ae]<|.e (chain [.b 13 (yB rfl rfl rfl:Bx.le (.row true 41 (i+[(jj (x.getD i ie) (iN (jU d) ((je s.tape (b++s.params) p).getD i ie) p) p)].length) 7 (fun i_ j_=>if i_<i then(ki ((List.range i).map (fun j_=>(jj (x.getD j_ ie) (iN (jU d) ((je s.tape (b++s.params) p).getD j_ ie) p) p)))) i_ j_ else(E.lZ (ik [(jj (x.getD i ie) (iN (jU d) ((je s.tape (b++s.params) p).getD i ie) p) p)])) (i_-i) j_)) (.row true 41 (i+1) 7 (ki ((List.range (i+1)).map (fun j_=>(jj (x.getD j_ ie) (iN (jU d) ((je s.tape (b++s.params) p).getD j_ ie) p) p))))))]<|.nil)) ah)
  (fun hi=>by
    have w1:=(hx.ok N ae).1;have w2:=fv N;have w3:=qC (jU d) ((je s.tape (b++s.params) p).getD N ie) (show 1<=p by omega) (show p<=4096 by omega);exact iB (chain [tT 40 ((N:Int)<(x.length:Int)) ae,iX ((N:Int)) (x.length) ae,.o 48 (.e (DB d):PV.le (.e (.agg ([(bP false),(.v (.slice none 0 0)),(iP 0)]++jo d++[(bP false)]))) (.e (gZ (jU d)))),iX ((N:Int)) ((je s.tape (b++s.params) p).length) ae,.c (Ji (jU d) ((je s.tape (b++s.params) p).getD N ie) p af af ae ae),.c (FH (x.getD N ie) (iN (jU d) ((je s.tape (b++s.params) p).getD N ie) p) p af (qC _ _ ae ae) ae ae),tB 58 (hN:(jj (x.getD N ie) (iN (jU d) ((je s.tape (b++s.params) p).getD N ie) p) p).all=true)]<|.nil) ah) ak:jq 8 Tryz.f22 (TG s x d b p N 0) .ret ⟨64,true,[(10,.e (.v (.slice none 0 0)))],[]⟩) .nil]<|.nil) ah 
theorem aeR(s:lM)(x:List Iv)(d:Dy)(b:List Iv)(p:Nat)(h:nJ s)(hx:kX s.iA x)(hd:d.ib)(h0:0<d.iK)(hb:kX s.iA b)(il:8<=p)(ic:p<=512)(hr:wI s.tape)(qx:gV 14 [jF s,ik x,gY d,iP (p:Int)] (bP true))(iT:gV 15 [jF s,ik b] (bP true))(hn:nd (je s.tape (b++s.params) p)=false)(iH:∀ i,i<x.length->(jj (x.getD i ie) (iN (jU d) ((je s.tape (b++s.params) p).getD i ie) p) p).all=false):gV 22 [(jF s),(ik x),(gY d),(ik b),(iP p)] (ik ((List.range x.length).map (fun j_=>(jj (x.getD j_ ie) (iN (jU d) ((je s.tape (b++s.params) p).getD j_ ie) p) p)))):=by
 have s4:=h.s4;have xd:=hx.len;have mS:=h.ig;have wY:=zC s.tape (b++s.params) p;obtain⟨f1,f2,f3,f4⟩:=xL h hb;have fv:=Ed s.tape f4 (show 1<=p by omega) (show p<=4096 by omega);have hq:0<d.q:=(qP d).1.1 h0;have Mm:=FX hd (bA hq);exact tr true Tryz.call22 Tryz.func22 (chain [.c (qx:gV 14 [(jF s),(ik x),(gY d),(iP p)] _),.c (iT:gV 15 [(jF s),(ik b)] _),.c (RE _ _ _ h hr hb iT il ic hn:gV 59 [(jF s),(ik b),(iP p)] _),tB 36 (ag:((0:Int) != 0)=false),.y 13 13 true 41 7 (ki ((List.range 0).map (fun j_=>(jj (x.getD j_ ie) (iN (jU d) ((je s.tape (b++s.params) p).getD j_ ie) p) p)))),.s (Sp.jv (TH s x d b p) 0 x.length ae (fun i hi pG=>by
    have w1:=(hx.ok i ae).1;have w2:=fv i;have w3:=qC (jU d) ((je s.tape (b++s.params) p).getD i ie) (show 1<=p by omega) (show p<=4096 by omega);have tN:=th (jj (x.getD i ie) (iN (jU d) ((je s.tape (b++s.params) p).getD i ie) p) p);exact iB (chain [tT 40 ((i:Int)<(x.length:Int)) ae,iX ((i:Int)) (x.length) ae,.o 48 (.e (DB d):PV.le (.e (.agg ([(bP false),(.v (.slice none 0 0)),(iP 0)]++jo d++[(bP false)]))) (.e (gZ (jU d)))),iX ((i:Int)) ((je s.tape (b++s.params) p).length) ae,.c (Ji (jU d) ((je s.tape (b++s.params) p).getD i ie) p af af ae ae),.c (FH (x.getD i ie) (iN (jU d) ((je s.tape (b++s.params) p).getD i ie) p) p af (qC _ _ ae ae) ae ae),tB 58 (iH i ae:(jj (x.getD i ie) (iN (jU d) ((je s.tape (b++s.params) p).getD i ie) p) p).all=false),.o 61 (.e (mz _):PV.le (.e (.sl true 1 7 fun i_ j_=>(iY (jj (x.getD i ie) (iN (jU d) ((je s.tape (b++s.params) p).getD i ie) p) p)).getD (i_*7+j_) (.v (.bool false)))) (.e (ik [(jj (x.getD i ie) (iN (jU d) ((je s.tape (b++s.params) p).getD i ie) p) p)]))),.a (ae:(i+[(jj (x.getD i ie) (iN (jU d) ((je s.tape (b++s.params) p).getD i ie) p) p)].length)*88<=140737488355328),iq ((i:Int)+1) ae]<|.e (chain [.b 13 (yB rfl rfl rfl:Bx.le (.row true 41 (i+[(jj (x.getD i ie) (iN (jU d) ((je s.tape (b++s.params) p).getD i ie) p) p)].length) 7 (fun i_ j_=>if i_<i then(ki ((List.range i).map (fun j_=>(jj (x.getD j_ ie) (iN (jU d) ((je s.tape (b++s.params) p).getD j_ ie) p) p)))) i_ j_ else(E.lZ (ik [(jj (x.getD i ie) (iN (jU d) ((je s.tape (b++s.params) p).getD i ie) p) p)])) (i_-i) j_)) (.row true 41 (i+1) 7 (ki ((List.range (i+1)).map (fun j_=>(jj (x.getD j_ ie) (iN (jU d) ((je s.tape (b++s.params) p).getD j_ ie) p) p))))))]<|.nil)) ah)
  (fun hi=>by
    exact iB (chain [tF 40 ((x.length:Int)<(x.length:Int)) ae,.z 13]<|.e (chain [.o 13 (.e (Ag aj):PV.le (.e (.sl true x.length 7 (ki ((List.range x.length).map (fun j_=>(jj (x.getD j_ ie) (iN (jU d) ((je s.tape (b++s.params) p).getD j_ ie) p) p)))))) (.e (ik ((List.range x.length).map (fun j_=>(jj (x.getD j_ ie) (iN (jU d) ((je s.tape (b++s.params) p).getD j_ ie) p) p))))))]<|.nil)) ah) ak:jq 8 Tryz.f22 (TH s x d b p 0) (.exit 0) ⟨64,true,[(13,.e (ik ((List.range x.length).map (fun j_=>(jj (x.getD j_ ie) (iN (jU d) ((je s.tape (b++s.params) p).getD j_ ie) p) p)))))],[]⟩) .nil]<|.nil) ah 
theorem aeQ(s:lM)(x:List Iv)(d:Dy)(b:List Iv)(p:Nat)(h:nJ s)(hx:kX s.iA x)(hd:d.ib)(h0:0<d.iK)(hb:kX s.iA b)(il:8<=p)(ic:p<=512)(hr:wI s.tape)(qx:gV 14 [jF s,ik x,gY d,iP (p:Int)] (bP true))(iT:gV 15 [jF s,ik b] (bP true)):gV 22 [(jF s),(ik x),(gY d),(ik b),(iP p)] (ik (mO s x d b p)):=by
 unfold mO;cases hn:nd (je s.tape (b++s.params) p)with
 |true=>rw[aR rfl];exact(aeO s x d b p h hx hd h0 hb il ic hr qx iT hn).jW (.nil _ _ _)
 |false=>
  rw[aQ ag];cases ha:nd (tX x (je s.tape (b++s.params) p) d p)with
  |true=>
   rw[aR rfl];unfold nd at ha;rw[di,Bt]at ha;obtain⟨i,hi,mc⟩:=ha;obtain⟨N,h1,h2,h3⟩:=qB (p:=fun i=>((tX x (je s.tape (b++s.params) p) d p).getD i ie).all) ⟨i,bI.1 hi,mc⟩;refine(aeP s x d b p h hx hd h0 hb il ic hr qx iT hn N h1 (fun i hi=>?_) ?_).jW (.nil _ _ _)
   .have:=h3 i hi;rw[Ab (show i<x.length by omega)]at this;exact this
   .rw [Ab h1]at h2;exact h2
  |false=>
   rw[aQ ag];refine aeR s x d b p h hx hd h0 hb il ic hr qx iT hn fun i hi=>?_
   unfold nd at ha;rw[dW,Bt]at ha;have:=ha i (bI.2 hi);rw[Ab hi]at this;exact aM this
theorem NM(x y:Iv)(hx:x.ib)(hy:y.ib):gV 55 [(gZ x),(gZ y)] (bP (oV x y)):=by
 obtain⟨w1,w2⟩:=hx.jZ;obtain⟨w3,w4⟩:=hy.jZ;exact tr true Tryz.call55 Tryz.func55 (chain [.c (BN x af),.c (BN y af)]<|.w (x.all=true)
  (fun k1=>chain [tB 15 (k1),.c (BN x af),.c (BN y af)]<|rQ (bP y.all) (bP (oV x y)) (na (by rw[cQ];unfold oV;simp[k1])))
  (fun k1=>chain [tB 15 (aM k1)]<|.w (y.all=true)
   (fun k2=>chain [tB 28 (k2)]<|rQ (bP true) (bP (oV x y)) (na (by rw[cQ];unfold oV;simp[k1,k2])))
   (fun k2=>chain [tB 28 (aM k2),.c (BO y.lo x.lo (Dy.ib.rf af) (Dy.ib.rf af))]<|.w ((jm y.lo x.lo)<=0)
    (fun k3=>chain [tB 35 (aS k3),.c (BO x.hi y.hi (Dy.ib.rf af) (Dy.ib.rf af))]<|rQ (bP (decide ((jm x.hi y.hi)<=0))) (bP (oV x y)) (na (by rw[cQ];unfold oV;simp[k1,k2,k3])))
    (fun k3=>chain [tB 35 (aT k3)]<|rQ (bP false) (bP (oV x y)) (na (by rw[cQ];unfold oV;simp[k1,k2,k3])))))) ah 
theorem P8(x:List Iv)(x1:1<=x.length)(x8:x.length<=8)(hx:oA x):gV 100 [(ik x)] (bP true):=by
 exact tr true Tryz.call100 Tryz.func100 (chain [tF 6 ((x.length:Int)<1) ae,tF 10 (8<(x.length:Int)) ae,.s (Sp.jv (P7 x) 0 x.length ae (fun i hi pG=>by
    have Ty:=hx i ae;exact iB (chain [tT 15 ((i:Int)<(x.length:Int)) ae,iX ((i:Int)) (x.length) ae,tB 22 (Ty.2:(x.getD i ie).all=false),iX ((i:Int)) (x.length) ae,.c (BN (x.getD i ie) Ty.1),iq ((i:Int)+1) ae]<|.nil) ah)
  (fun hi=>by
    exact iB (chain [tF 15 ((x.length:Int)<(x.length:Int)) ae]<|.nil) ah) ak:jq 4 Tryz.f100 (P7 x 0) (.exit 0) ⟨31,true,[],[]⟩) .nil]<|.nil) ah 
theorem Vs(x y:List Iv)(x1:1<=x.length)(x8:x.length<=8)(hl:x.length=y.length)(hx:oA x)(hy:oA y):gV 54 [(ik x),(ik y)] (bP true):=by
 exact tr true Tryz.call54 Tryz.func54 (chain [.c (P8 x ae ae hx),.c (P8 y ae ae hy),tB 16 (Fh hl:((x.length:Int)==(y.length:Int))=true)]<|.nil) ah 
theorem afn(x y:List Iv)(x1:1<=x.length)(x8:x.length<=8)(hl:x.length=y.length)(hx:oA x)(hy:oA y)(iH:∀ i,i<x.length->(oV (x.getD i ie) (y.getD i ie))=true):gV 20 [(ik x),(ik y)] (bP true):=by
 exact tr true Tryz.call20 Tryz.func20 (chain [.c (Vs x y x1 x8 hl hx hy),.s (Sp.jv (TP x y) 0 x.length ae (fun i hi pG=>by
    have v1:=(hx i ae).1;have v2:=(hy i ae).1;exact iB (chain [tT 15 ((i:Int)<(x.length:Int)) ae,iX ((i:Int)) (x.length) ae,iX ((i:Int)) (y.length) ae,.c (NM (x.getD i ie) (y.getD i ie) v1 v2),.o 27 (.bool (iH i ae):PV.le (.e (bP (oV (x.getD i ie) (y.getD i ie)))) (.e (bP true))),iq ((i:Int)+1) ae]<|.nil) ah)
  (fun hi=>by
    exact iB (chain [tF 15 ((x.length:Int)<(x.length:Int)) ae]<|.nil) ah) ak:jq 3 Tryz.f20 (TP x y 0) (.exit 0) ⟨29,true,[(5,.e (bP true))],[]⟩) .nil]<|.nil) ah 
theorem afl(x y:List Iv)(x1:1<=x.length)(x8:x.length<=8)(hl:x.length=y.length)(hx:oA x)(hy:oA y)(N:Nat)(mE:N<x.length)(iH:∀ i,i<N->(oV (x.getD i ie) (y.getD i ie))=true)(hN:(oV (x.getD N ie) (y.getD N ie))=false):gV 20 [(ik x),(ik y)] (bP false):=by
 exact tr true Tryz.call20 Tryz.func20 (chain [.c (Vs x y x1 x8 hl hx hy),.s (Sp.jv (TO x y N) 0 (N+1) ae (fun i hi pG=>by
    have v1:=(hx i ae).1;have v2:=(hy i ae).1;by_cases hq:i<N
    .exact iB (chain [tT 10 (i<=N) ae,tT 15 ((i:Int)<(x.length:Int)) ae,iX ((i:Int)) (x.length) ae,iX ((i:Int)) (y.length) ae,.c (NM (x.getD i ie) (y.getD i ie) v1 v2),iq ((i:Int)+1) ae]<|.e (chain [.o 5 (.bool ((iH i ae).trans (aS ae).symm):PV.le (.e (bP (oV (x.getD i ie) (y.getD i ie)))) (.e (bP (decide ((i+1)<=N)))))]<|.nil)) ah 
    .exact iB (chain [tT 10 (i<=N) ae,tT 15 ((i:Int)<(x.length:Int)) ae,iX ((i:Int)) (x.length) ae,iX ((i:Int)) (y.length) ae,.c (NM (x.getD i ie) (y.getD i ie) v1 v2),iq ((i:Int)+1) ae]<|.e (chain [.o 5 (.bool ((show(oV (x.getD i ie) (y.getD i ie))=false by rw[show i=N by omega];exact hN).trans (aT ae).symm):PV.le (.e (bP (oV (x.getD i ie) (y.getD i ie)))) (.e (bP (decide ((i+1)<=N)))))]<|.nil)) ah)
  (fun hi=>by
    exact iB (chain [tF 10 ((N+1)<=N) ae]<|.nil) ah) ak:jq 3 Tryz.f20 (TO x y N 0) (.exit 0) ⟨29,true,[(5,.e (bP (decide ((N+1)<=N))))],[]⟩) (chain [.o 5 (.bool (aS (bL _)).symm:PV.le (.e (bP true)) (.e (bP (decide (0<=N)))))]<|.nil)]<|rQ (bP (decide ((N+1)<=N))) (bP false) (na (aT ae))) ah 
theorem afm(x y:List Iv)(x1:1<=x.length)(x8:x.length<=8)(hl:x.length=y.length)(hx:oA x)(hy:oA y):gV 20 [(ik x),(ik y)] (bP (rK x y)):=by
 by_cases c:rK x y=true
 .rw [c]
  exact afn x y x1 x8 hl hx hy fun i hi=>bF.1 c i (bI.2 hi)
 .rw [aM c]
  obtain⟨N,n1,n2,n3⟩:=xJ c;exact afl x y x1 x8 hl hx hy N n1 (fun k hk=>by simpa using n3 k hk) (by simpa using n2)
open Go.RowKit Fp Pu
section
variable {s:lM} {x b:List Iv} {d:Dy} {p n:Nat}
theorem amj(hx:kX n x)(hd:d.ib)(h0:0<=d.q)(vb:ph (b++s.params))(hp:1<=p)(ic:p<=4096)(ks:mO s x d b p≠[]):rK x (mO s x d b p)=true:=by
 rw[aeU ks];exact afo fun i _=>amk hx hd h0 (Ed s.tape vb hp ic) hp ic i
end
open Go.RowKit Fp Pu
theorem aeZ(s:jr)(x:List RI)(d:RD)(b:List RI)(p:Int)(g:s.ji)(gx:∀ i,(x.getD i ju).ji)(gd:d.ji)(gb:∀ i,(b.getD i ju).ji)(hE:(¬rA s=true\/¬pv x=true\/¬pv b=true\/pr d=true\/200<p)):gV 3 [(lj s),(kj x),(mF d),(kj b),(iP p)] (bP true):=by
 exact tr true Tryz.call3 Tryz.func3 (chain [.c C4,.c (IQ s)]<|.w (rA s=true)
  (fun k1=>chain [tB 15 (k1),.c (yD x)]<|.w (pv x=true)
   (fun k2=>chain [tB 19 (k2),.c (yD b)]<|.w (pv b=true)
    (fun k3=>chain [tB 24 (k3),.c (C5 d)]<|.w (pr d=true)
     (fun k4=>chain [tB 29 (k4)]<|.nil)
     (fun k4=>chain [tB 29 (aM k4)]<|.w (200<p)
      (fun k5=>chain [tB 33 (aS k5)]<|.nil)
      (fun k5=>.x (by rcases hE with q|q|q|q|q<;>first|contradiction|omega))))
    (fun k3=>chain [tB 24 (aM k3)]<|.nil))
   (fun k2=>chain [tB 19 (aM k2)]<|.nil))
  (fun k1=>chain [tB 15 (aM k1)]<|.nil)) ah 
theorem ae2(s:jr)(x:List RI)(d:RD)(b:List RI)(p:Int)(g:s.ji)(gx:∀ i,(x.getD i ju).ji)(gd:d.ji)(gb:∀ i,(b.getD i ju).ji)(h1:rA s=true)(h2:pv x=true)(wR:pv b=true)(h3:pr d=false)(h4:p<=200)(hf:mD s x d p=false):gV 3 [(lj s),(kj x),(mF d),(kj b),(iP p)] (bP true):=by
 have sm:=Lf h1;have lv:x.length<=1000:=by have:=BY h2;omega
 have oc:b.length<=1000:=by have:=BY wR;omega
 exact tr true Tryz.call3 Tryz.func3 (chain [.c C4,.c (IQ s),tB 16 (by rw[h1];rfl:(!(rA s))=false),.c (yD x),tB 20 (by rw[h2];rfl:(!(pv x))=false),.c (yD b),tB 25 (by rw[wR];rfl:(!(pv b))=false),.c (C5 d),tB 29 (h3:(pr d)=false),tF 33 (200<p) ae,.c (aeS s g sm x gx lv d gd p b gb oc hf),.c (by rw[<-hf];exact NK s g sm x gx lv d gd p:gV 14 [(lj s),(kj x),(mF d),(iP p)] (bP false)),tB 55 (ag:((0:Int)==0)=true)]<|.nil) ah 
theorem ae3(s:jr)(x:List RI)(d:RD)(b:List RI)(p:Int)(g:s.ji)(gx:∀ i,(x.getD i ju).ji)(gd:d.ji)(gb:∀ i,(b.getD i ju).ji)(h1:rA s=true)(h2:pv x=true)(wR:pv b=true)(h3:pr d=false)(h4:p<=200)(hf:mD s x d p=true)(zI:qu s.iA b=false):gV 3 [(lj s),(kj x),(mF d),(kj b),(iP p)] (bP true):=by
 have sm:=Lf h1;have lv:x.length<=1000:=by have:=BY h2;omega
 have oc:b.length<=1000:=by have:=BY wR;omega
 have LO:tz s b=false:=by unfold tz;rw[zI,Bool.and_false]
 exact tr true Tryz.call3 Tryz.func3 (chain [.c C4,.c (IQ s),tB 16 (by rw[h1];rfl:(!(rA s))=false),.c (yD x),tB 20 (by rw[h2];rfl:(!(pv x))=false),.c (yD b),tB 25 (by rw[wR];rfl:(!(pv b))=false),.c (C5 d),tB 29 (h3:(pr d)=false),tF 33 (200<p) ae,.c (aeT s g sm x gx lv d gd p b gb oc hf zI),.c (by rw[<-hf];exact NK s g sm x gx lv d gd p:gV 14 [(lj s),(kj x),(mF d),(iP p)] (bP true)),.c (by rw[<-LO];exact Jg s g sm b gb oc:gV 15 [(lj s),(kj b)] (bP false)),tB 55 (ag:((0:Int)==0)=true)]<|.nil) ah 
theorem aeY(x:Iv)(hx:x.ib)(ha:x.all=false):gV 18 [(gZ x)] (bP false):=by
 exact tr true Tryz.call18 Tryz.func18 (chain [tB 4 (ha:x.all=false),.c (BN x hx)]<|.nil) ah 
theorem ae5(s:lM)(x:List Iv)(d:Dy)(b:List Iv)(p:Nat)(h:nJ s)(hx:kX s.iA x)(hd:d.ib)(h0:0<d.iK)(hb:kX s.iA b)(il:8<=p)(ic:p<=512)(p200:p<=200)(zJ:gV 10 [jF s] (bP true))(zU:gV 11 [ik x] (bP true))(zV:gV 11 [ik b] (bP true))(zO:gV 12 [gY d] (bP false))(qx:gV 14 [jF s,ik x,gY d,iP (p:Int)] (bP true))(iT:gV 15 [jF s,ik b] (bP true))(zT:gV 16 [jF s] (bP true))(hr:wI s.tape):gV 3 [(jF s),(ik x),(gY d),(ik b),(iP p)] (bP true):=by
 have s1:=h.s1;have s4:=h.s4;have hp3:p<=4096:= ae ;have uX:oA (mO s x d b p)/\(mO s x d b p).length<=8:=by
  by_cases hi:mO s x d b p=[]
  .rw [hi];exact⟨fun i hi=>absurd hi (bj i),bL _⟩
  .have w8:=My hx (show 1<=p by omega) hp3 hi
   exact⟨w8.ok,by rw[w8.len];omega⟩
 have kg:=uX.2;replace uX:=uX.1;exact tr true Tryz.call3 Tryz.func3 (chain [.c C4,.c (zJ:gV 10 [(jF s)] _),.c (zU:gV 11 [(ik x)] _),.c (zV:gV 11 [(ik b)] _),.c (zO:gV 12 [(gY d)] _),tF 33 (200<(p:Int)) ae,.c (ER s x d b p h hx hd h0 hb il ic),.c (qx:gV 14 [(jF s),(ik x),(gY d),(iP p)] _),.c (iT:gV 15 [(jF s),(ik b)] _),.c (zT:gV 16 [(jF s)] _),.c (aeQ s x d b p h hx hd h0 hb il ic hr qx iT:gV 22 [(jF s),(ik x),(gY d),(ik b),(iP p)] _),.c (afW (mO s x d b p) uX ae)]<|.nil) ah 
theorem ae0(s:lM)(x:List Iv)(d:Dy)(b:List Iv)(p:Nat)(h:nJ s)(hx:kX s.iA x)(hd:d.ib)(h0:0<d.iK)(hb:kX s.iA b)(il:8<=p)(ic:p<=512)(p200:p<=200)(zJ:gV 10 [jF s] (bP true))(zU:gV 11 [ik x] (bP true))(zV:gV 11 [ik b] (bP true))(zO:gV 12 [gY d] (bP false))(qx:gV 14 [jF s,ik x,gY d,iP (p:Int)] (bP true))(iT:gV 15 [jF s,ik b] (bP true))(zT:gV 16 [jF s] (bP false))(hi:(mO s x d b p)=[]):gV 3 [(jF s),(ik x),(gY d),(ik b),(iP p)] (bP true):=by
 exact tr true Tryz.call3 Tryz.func3 (chain [.c C4,.c (zJ:gV 10 [(jF s)] _),.c (zU:gV 11 [(ik x)] _),.c (zV:gV 11 [(ik b)] _),.c (zO:gV 12 [(gY d)] _),tF 33 (200<(p:Int)) ae,.c (ER s x d b p h hx hd h0 hb il ic),.c (qx:gV 14 [(jF s),(ik x),(gY d),(iP p)] _),.c (iT:gV 15 [(jF s),(ik b)] _),.c (zT:gV 16 [(jF s)] _),tB 61 (by rw[hi];rfl:(((mO s x d b p).length:Int)==0)=true)]<|.nil) ah 
theorem ae1(s:lM)(x:List Iv)(d:Dy)(b:List Iv)(p:Nat)(h:nJ s)(hx:kX s.iA x)(hd:d.ib)(h0:0<d.iK)(hb:kX s.iA b)(il:8<=p)(ic:p<=512)(p200:p<=200)(zJ:gV 10 [jF s] (bP true))(zU:gV 11 [ik x] (bP true))(zV:gV 11 [ik b] (bP true))(zO:gV 12 [gY d] (bP false))(qx:gV 14 [jF s,ik x,gY d,iP (p:Int)] (bP true))(iT:gV 15 [jF s,ik b] (bP true))(zT:gV 16 [jF s] (bP false))(hi:(mO s x d b p)≠[]):gV 3 [(jF s),(ik x),(gY d),(ik b),(iP p)] (bP true):=by
 have s1:=h.s1;have s4:=h.s4;obtain⟨x1,x4,xo⟩:=AR hx s1 s4;obtain⟨b1,b4,bo⟩:=AR hb s1 s4;have xd:=hx.len;have CJ:=hb.len;have w8:=My hx (show 1<=p by omega) (show p<=4096 by omega) hi;have hli:=w8.len;obtain⟨f1,f2,f3,f4⟩:=xL h hb;have lV:=amj hx hd (bA ((qP d).1.1 h0)) f4 (show 1<=p by omega) (show p<=4096 by omega) hi;exact tr true Tryz.call3 Tryz.func3 (chain [.c C4,.c (zJ:gV 10 [(jF s)] _),.c (zU:gV 11 [(ik x)] _),.c (zV:gV 11 [(ik b)] _),.c (zO:gV 12 [(gY d)] _),tF 33 (200<(p:Int)) ae,.c (ER s x d b p h hx hd h0 hb il ic),.c (qx:gV 14 [(jF s),(ik x),(gY d),(iP p)] _),.c (iT:gV 15 [(jF s),(ik b)] _),.c (zT:gV 16 [(jF s)] _),tB 61 (af2 hi:(((mO s x d b p).length:Int)==0)=false),tB 67 (Fh ae:(((mO s x d b p).length:Int)==(x.length:Int))=true),.c (Af true _ _ 18 [] (fun _=>false) (fun i hi=>aeY _ (w8.ok i hi).1 (w8.ok i hi).2) ae (fun _ _=>rfl):gV 17 [(ik (mO s x d b p)),(.fn 18 [])] _),.c (by rw[<-lV];exact afm _ _ ae ae ae hx.ok w8.ok:gV 20 [(ik x),(ik (mO s x d b p))] (bP true))]<|.nil) ah 
theorem ae4(s:lM)(x:List Iv)(d:Dy)(b:List Iv)(p:Nat)(h:nJ s)(hx:kX s.iA x)(hd:d.ib)(h0:0<d.iK)(hb:kX s.iA b)(il:8<=p)(ic:p<=512)(p200:p<=200)(zJ:gV 10 [jF s] (bP true))(zU:gV 11 [ik x] (bP true))(zV:gV 11 [ik b] (bP true))(zO:gV 12 [gY d] (bP false))(qx:gV 14 [jF s,ik x,gY d,iP (p:Int)] (bP true))(iT:gV 15 [jF s,ik b] (bP true))(zT:gV 16 [jF s] (bP false)):gV 3 [(jF s),(ik x),(gY d),(ik b),(iP p)] (bP true):=by
 by_cases hi:(mO s x d b p)=[]
 .exact ae0 s x d b p h hx hd h0 hb il ic p200 zJ zU zV zO qx iT zT hi
 .exact ae1 s x d b p h hx hd h0 hb il ic p200 zJ zU zV zO qx iT zT hi
theorem afZ(s:jr)(x:List RI)(d:RD)(b:List RI)(p:Int)(g:s.ji)(gx0:∀ y,y ∈ x->y.ji)(gd:d.ji)(gb0:∀ y,y ∈ b->y.ji):gV 3 [lj s,kj x,mF d,kj b,iP p] (bP true):=by
 have gx:=R1 gx0;have gb:=R1 gb0;by_cases hE:(¬rA s=true\/¬pv x=true\/¬pv b=true\/pr d=true\/200<p)
 .exact aeZ s x d b p g gx gd gb hE
 have h1:rA s=true:=bE fun q=>hE (.inl q)
 have h2:pv x=true:=bE fun q=>hE (.inr (.inl q))
 have wR:pv b=true:=bE fun q=>hE (.inr (.inr (.inl q)))
 have h3:pr d=false:=aM fun q=>hE (.inr (.inr (.inr (.inl q))))
 have h4:p<=200:=Int.not_lt.1 fun q=>hE (.inr (.inr (.inr (.inr q))))
 cases hf:mD s x d p with
 |false=>exact ae2 s x d b p g gx gd gb h1 h2 wR h3 h4 hf
 |true=>
  cases zI:qu s.iA b with
  |false=>exact ae3 s x d b p g gx gd gb h1 h2 wR h3 h4 hf zI
  |true=>
   have sm:=Lf h1;have lv:x.length<=1000:=by have:=BY h2;omega
   have oc:b.length<=1000:=by have:=BY wR;omega
   obtain⟨o1,o2,o3,o4,p1,p2,e1,e2,e3⟩:=ac6 g gx gd hf;obtain⟨o5,e4⟩:=ZL gb zI;have hs:mA s=true:=by unfold mD at hf;simp only[bB]at hf;exact hf.1.1.1.1
   have LO:tz s b=true:=by unfold tz;rw[hs,zI];rfl
   have c1:=IQ s;have c2:=yD x;have c2b:=yD b;have c3:=C5 d;have c4:=afX s g sm;have c5:=NK s g sm x gx lv d gd p;have c6:=Jg s g sm b gb oc;rw[h1,e1]at c1;rw[h2,e2]at c2;rw[wR,e4]at c2b;rw[h3,e3]at c3;rw[e1]at c4;rw[hf,e1,e2,e3]at c5;rw[LO,e1,e4]at c6;rw[e1,e2,e3,e4];obtain⟨q,rfl⟩:=dY (show 0<=p by omega);cases hr:Dm s with
   |true=>rw[hr]at c4;exact ae5 s.v (x.map RI.iv) d.dy (b.map RI.iv) q o1 o2 o3 o4 o5 ae ae ae c1 c2 c2b c3 c5 c6 c4 (aiN hr o1)
   |false=>rw[hr]at c4;exact ae4 s.v (x.map RI.iv) d.dy (b.map RI.iv) q o1 o2 o3 o4 o5 ae ae ae c1 c2 c2b c3 c5 c6 c4
open Go.ChangeShapes Go.WideShapes Go.ChangeAt Go.RowKit Fp Pu
theorem aiX{W:World}{x:RD}{cs:Array Value}(h:OT W x cs.toList):iG mU mU W (mF x) (.agg cs):=by
 obtain⟨_,hl,h⟩:=h;have:=iG.agg (bs:=mU) (br:=mU) (w:=W) (NP x) cs.toList (by rw[hl];rfl) (fun i p v h1 h2=>by
  have hi:i<3:=by have:=(bV.1 h2).1;omega
  obtain⟨v',h3,h4⟩:=h i hi;rw[h2]at h3;cases h3;rw[aW,h1]at h4;exact h4)
 unfold mF;exact this
open Go.ChangeShapes Go.WideShapes Go.ChangeAt Go.RowKit Fp Pu
def J2(W:World)(o:mZ)(cs:List Value):Prop:=o.ji/\cs.length=6/\∀ j,j<6->∃ v,cs[j]? = some v/\iG mU mU W ((yR o).getD j .any) v
theorem agi{α:Type}{l:List α}(h:l.length=2):∃ a b,l=[a,b]:=by
 rcases l with _|⟨a,_|⟨b,_|⟨c,l⟩⟩⟩<;>simp at h
 exact⟨a,b,rfl⟩
theorem agj{α:Type}{l:List α}(h:l.length=5):∃ a b c d e,l=[a,b,c,d,e]:=by
 rcases l with _|⟨a,_|⟨b,_|⟨c,_|⟨d,_|⟨e,_|⟨f,l⟩⟩⟩⟩⟩⟩<;>simp at h
 exact⟨a,b,c,d,e,rfl⟩
theorem agk{α:Type}{l:List α}(h:l.length=6):∃ a b c d e f,l=[a,b,c,d,e,f]:=by
 rcases l with _|⟨a,_|⟨b,_|⟨c,_|⟨d,_|⟨e,_|⟨f,_|⟨g,l⟩⟩⟩⟩⟩⟩⟩<;>simp at h
 exact⟨a,b,c,d,e,f,rfl⟩
section
variable {H:Type} {enc:TypeId×Value->H} {W:World} {fuel:Nat} {cs:List Value} {x:DataW H×List MemPlace}
theorem An(h:DataW.trod enc Tryz.prog W 0 (fun _=>true) true fuel 3 cs=some x):∃ z,cs=[.int .i64 z]/\ku .i64 z:=by
 obtain⟨z,hz,_,hw⟩:=DataW.trod_int Tryz.underlying3 h;exact⟨z,hz,Yo hw⟩
theorem aho(h:DataW.trod enc Tryz.prog W 0 (fun _=>true) true fuel 97 cs=some x):∃ n d,cs=[.int .i64 n,.int .i64 d]/\ku .i64 n/\ku .i64 d:=by
 obtain⟨xs,n,rfl,rfl,hl,lv,hf⟩:=DataW.trod_struct Tryz.underlying97 h;have hC:Tryz.prog.cellsOf 97=2:= ah ;have hI:Tryz.prog.cellsOf 3=1:= ah ;rw[hC]at hl;obtain⟨c0,c1,rfl⟩:=agi hl;have h0:=hf 0 _ rfl;have h1:=hf 1 _ rfl;simp only[eH,eI,dP]at h0 h1;simp only[hI,eJ,eK,eh,eN]at h0 h1;rw[bd (by rw[lv];decide)]at h0 h1;obtain⟨z0,e0,w0⟩:=An h0;obtain⟨z1,e1,w1⟩:=An h1;simp at e0 e1;subst e0 e1;exact⟨z0,z1,rfl,w0,w1⟩
theorem ahq(h:DataW.trod enc Tryz.prog W 0 (fun _=>true) true fuel 99 cs=some x):∃ o,J2 W o cs:=by
 obtain⟨xs,n,rfl,rfl,hl,lv,hf⟩:=DataW.trod_struct Tryz.underlying99 h;have hC:Tryz.prog.cellsOf 99=6:= ah ;have hR:Tryz.prog.cellsOf 97=2:= ah ;have hI:Tryz.prog.cellsOf 3=1:= ah ;rw[hC]at hl;obtain⟨c0,c1,c2,c3,c4,c5,rfl⟩:=agk hl;have h0:=hf 0 _ rfl;have h1:=hf 1 _ rfl;have h2:=hf 2 _ rfl;have h3:=hf 3 _ rfl;have h4:=hf 4 _ rfl;simp only[eH,eI,dP]at h0 h1 h2 h3 h4;simp only[hI,hR,eJ,eK,eh,eN]at h0 h1 h2 h3 h4;rw[bd (by rw[lv];decide)]at h0 h1 h2 h3 h4;obtain⟨z0,e0,w0⟩:=An h0;obtain⟨z1,e1,w1⟩:=An h1;obtain⟨z2,e2,w2⟩:=An h2;obtain⟨z3,e3,w3⟩:=An h3;obtain⟨z4,z5,e4,w4,w5⟩:=aho h4;simp at e0 e1 e2 e3 e4;obtain⟨e4,e5⟩:=e4;subst e0 e1 e2 e3 e4 e5;refine⟨⟨z0,z1,z2,z3,z4,z5⟩,⟨w0,w1,w2,w3,w4,w5⟩,rfl,fun j hj=>?_⟩;rcases j with _|_|_|_|_|_|j
 all_goals first|exact⟨_,rfl,.v _⟩|omega
theorem ajH(o:mZ)(j:Nat)(hj:j<6):((yR o).getD j .any).one=true/\(((yR o).getD j .any).nk=true)/\((yR o).getD j .any).nr 2=true:=by
 rcases j with _|_|_|_|_|_|j
 all_goals first|exact⟨rfl,rfl,rfl⟩|omega
theorem ahr(h:DataW.trod enc Tryz.prog W 0 (fun _=>true) true fuel 22 cs=some x):
  ∃ l v,cs=[v]/\(∀ y,y ∈ l->y.ji)/\iG mU mU W (jJ l) v:=by
 have hC:Tryz.prog.cellsOf 99=6:= ah ;rcases Deep.open_slice Tryz.underlying22 h with⟨rfl,_⟩|⟨a,len,cap,m,n,D,Pl,rfl,hb,hl,hm,rX,rfl,hx⟩
 .exact ⟨[],_,rfl,(fun y hy=>by cases hy),.sl true 0 6 _ none 0 (fun _ _=>.bool false) (aU _) ag (fun _=>rfl) (fun i j hi=>absurd hi (bj i)) (fun i j hi=>absurd hi (bj i)) (fun i j hi=>absurd hi (bj i)) (fun i j hi=>absurd hi (bj i))⟩
 .simp only[bk]at rX
  subst rX;have ex:∀ i,∃ y:mZ,i<len->∃ cs',W.cells? 0 (a.add (i*6)) 6=some cs'/\J2 W y cs':=by
   intro i;by_cases hi:i<len
   .obtain ⟨cs',h1,h2⟩:=hx i ae 
    rw[hC]at h1;obtain⟨y,hy⟩:=ahq h2;exact⟨y,fun _=>⟨cs',h1,hy⟩⟩
   .exact ⟨iV,fun h=>absurd h hi⟩
  let X:Nat->mZ:=fun i=>Classical.choose (ex i)
  have hX:∀ i,i<len->∃ cs',W.cells? 0 (a.add (i*6)) 6=some cs'/\J2 W (X i) cs':=fun i=>cM (ex i)
  have hlen:((List.range len).map X).length=len:= aj ;refine⟨(List.range len).map X,_,rfl,?_,?_⟩
  .intro y hy
   obtain⟨i,hi,rfl⟩:=cY.1 hy;obtain⟨cs',_,h2⟩:=hX i (bI.1 hi);exact h2.1
  .have Es:∀ i,i<len->((List.range len).map X).getD i iV=X i:=by
    intro i hi;rw[aW,cj,amV hi];rfl
   have:=NV (W:=W) (a:=a) (len:=len) (cap:=m) (nl:=true) (fun i j=>(yR (((List.range len).map X).getD i iV)).getD j .any) hl hm (show 0<6 by decide)
    (fun i j _ hj=>let⟨h1,h2,h3⟩:=ajH (((List.range len).map X).getD i iV) j hj;⟨h1,fun _=>h2,h3⟩)
    (fun i hi=>by
     obtain⟨cs',h1,h2,_,h3⟩:=hX i hi;exact⟨cs',h1,fun j hj=>by rw[Es i hi];exact h3 j hj⟩)
   unfold jJ;rw[hlen];exact this
theorem ajF:iV.ji:=by constructor<;>(show ku .i64 0;unfold ku;decide)
theorem Lm{α:Type}{P:α->Prop}{l:List α}{d:α}(h:∀ y,y ∈ l->P y)(hd:P d)(i:Nat):P (l.getD i d):=by
 by_cases hi:i<l.length
 .rw [aW,bd hi];exact h _ (cw hi)
 .rw [aW,bS ae];exact hd
def OU(W:World)(s:jr)(cs:List Value):Prop:=s.ji/\cs.length=5/\∀ j,j<5->∃ v,cs[j]? = some v/\iG mU mU W ((N9 s).getD j .any) v
theorem aht(h:DataW.trod enc Tryz.prog W 0 (fun _=>true) true fuel 25 cs=some x):
 ∃ (n:Int) (gW:List mZ) (ig:List Int) (v w:Value),cs=[.int .i64 n,v,w]/\ku .i64 n/\(∀ y,y ∈ gW->y.ji)/\(∀ z,z ∈ ig->ku .i64 z)/\iG mU mU W (jJ gW) v/\iG mU mU W (jN ig) w:=by
 obtain⟨xs,n,rfl,rfl,hl,lv,hf⟩:=DataW.trod_struct Tryz.underlying25 h;have hC:Tryz.prog.cellsOf 25=3:= ah ;have hI:Tryz.prog.cellsOf 3=1:= ah ;have hO:Tryz.prog.cellsOf 22=1:= ah ;have hU:Tryz.prog.cellsOf 23=1:= ah ;rw[hC]at hl;obtain⟨c0,c1,c2,rfl⟩:=Um hl;have h0:=hf 0 _ rfl;have h1:=hf 1 _ rfl;have h2:=hf 2 _ rfl;simp only[eH,eI,dP]at h0 h1 h2;simp only[hI,hO,hU,eJ,eK,eh,eN]at h0 h1 h2;rw[bd (by rw[lv];decide)]at h0 h1 h2;obtain⟨z0,e0,w0⟩:=An h0;obtain⟨gW,v,e1,g1,r1⟩:=ahr h1;obtain⟨ig,w,e2,g2,r2⟩:=ahm (k:=.i64) (fun _=>rfl) Tryz.underlying23 Tryz.underlying3 hI h2;simp at e0 e1 e2;subst e0 e1 e2;exact⟨z0,gW,ig,_,_,rfl,w0,g1,g2,r1,r2⟩
theorem ahs(h:DataW.trod enc Tryz.prog W 0 (fun _=>true) true fuel 28 cs=some x)(iD:∀ p ∈ x.2,p.block<W.heap.size):∃ s,OU W s cs:=by
 obtain⟨xs,n,rfl,rfl,hl,lv,hf⟩:=DataW.trod_struct Tryz.underlying28 h;have hC:Tryz.prog.cellsOf 28=5:= ah ;have hT:Tryz.prog.cellsOf 25=3:= ah ;have hI:Tryz.prog.cellsOf 3=1:= ah ;have hP:Tryz.prog.cellsOf 26=1:= ah ;rw[hC]at hl;obtain⟨c0,c1,c2,c3,c4,rfl⟩:=agj hl;have h0:=hf 0 _ rfl;have h1:=hf 1 _ rfl;have h2:=hf 2 _ rfl;simp only[eH,eI,dP]at h0 h1 h2;simp only[hT,hI,hP,eJ,eK,eh,eN]at h0 h1 h2;rw[bd (by rw[lv];decide)]at h0 h1 h2;obtain⟨z0,gW,ig,v,w,e0,w0,g1,g2,r1,r2⟩:=aht h0;obtain⟨z1,e1,w1⟩:=An h1;obtain⟨ps,u,e2,g3,r3⟩:=Ns h2 (fun p hp=>iD p (eO.2 ⟨_,cw _,hp⟩));simp at e0 e1 e2;obtain⟨e0,e0b,e0c⟩:=e0;subst e0 e0b e0c e1 e2;refine⟨⟨z0,gW,ig,z1,ps⟩,⟨w0,Lm g1 ajF,Lm g2 (by unfold ku;decide),w1,Lm g3 WY⟩,rfl,fun j hj=>?_⟩;rcases j with _|_|_|_|_|j
 .exact ⟨_,rfl,.v _⟩
 .exact ⟨_,rfl,r1⟩
 .exact ⟨_,rfl,r2⟩
 .exact ⟨_,rfl,.v _⟩
 .exact ⟨_,rfl,r3⟩
 .omega
end
theorem ak8{W:World}{x:jr}{cs:Array Value}(h:OU W x cs.toList):iG mU mU W (lj x) (.agg cs):=by
 obtain⟨_,hl,h⟩:=h;have:=iG.agg (bs:=mU) (br:=mU) (w:=W) (N9 x) cs.toList (by rw[hl];rfl) (fun i p v h1 h2=>by
  have hi:i<5:=by have:=(bV.1 h2).1;omega
  obtain⟨v',h3,h4⟩:=h i hi;rw[h2]at h3;cases h3;rw[aW,h1]at h4;exact h4)
 unfold lj;exact this
open Go.ChangeShapes Go.WideShapes Go.ChangeAt Go.RowKit Fp Pu
def acp:Value:=.agg #[.bool false,.slice none 0 0,.int .i64 0]
def acq{H:Type}:DataW H:=.agg [.lit (.bool false),.nil,.lit (.int .i64 0)]
def acv:Value:=.agg #[.int .i64 0,.slice none 0 0,.slice none 0 0,.int .i64 0,.slice none 0 0]
def acw{H:Type}:DataW H:=.agg [.agg [.lit (.int .i64 0),.nil,.nil],.lit (.int .i64 0),.nil]
def Bs:Array Value:=#[acv,.slice none 0 0,acp,.slice none 0 0,.int .i64 0]
set_option maxRecDepth 100000 in
theorem ae6(H:Type)(enc:TypeId×Value->H)(W:World)(base:Nat)(args:Array Value)(ds gs:List (DataW H))(before:List MemPlace)
 (kW:∀ (j:Nat) t v,Tryz.f3.params[j]? = some t->args[j]? = some v->Value.okWide Tryz.prog W .any base t v)
 (hW:DataW.Whole enc Tryz.prog Tryz.f3.params.toList Rows.picardImagesSpec.vars false W args.toList ds gs before) (hL:laidMetH Tryz.prog Rows.picardImagesRow.laid W):
 Calls Tryz.prog 3 args W fun e W'=>∃ v,e = .returned v/\Rows.picardImagesSpec.post enc Tryz.prog Tryz.f3 false true false false W args v W':=by
 have En:=hW;obtain⟨p,q,tD,hV,rfl,hfz,hnd⟩:=hW;have hA:DataW.TrodAll enc Tryz.prog W 0 (fun _=>true) true Tryz.f3.params.toList args.toList ds p:=tD;rw[Tryz.params3]at hA kW;obtain⟨v0,vs0,d0,ds0,p0,q0,CX,rfl,rfl,h0,tD⟩:=trodAll_cons hA;obtain⟨v1,vs1,d1,ds1,p1,q1,rfl,rfl,rfl,h1,zF⟩:=trodAll_cons tD;obtain⟨v2,vs2,d2,ds2,p2,q2,rfl,rfl,rfl,h2,hA2⟩:=trodAll_cons zF;obtain⟨v3,vs3,d3,ds3,p3,q3,rfl,rfl,rfl,h3,hA3⟩:=trodAll_cons hA2;obtain⟨v4,vs4,d4,ds4,p4,q4,rfl,rfl,rfl,h4,hA4⟩:=trodAll_cons hA3;obtain⟨rfl,rfl,rfl⟩:=trodAll_nil hA4;obtain rfl:args = #[v0,v1,v2,v3,v4]:=by cases args;simp_all
 obtain⟨rfl,rfl⟩:=trodVars_none hV;obtain⟨cs0,rfl,amz⟩:=okWide_struct Tryz.underlying28 (kW 0 28 v0 rfl rfl);obtain⟨a1,len1,cap1,rfl⟩:=okWide_slice Tryz.underlying26 (kW 1 26 v1 rfl rfl);obtain⟨cs2,rfl,Tj⟩:=okWide_struct Tryz.underlying31 (kW 2 31 v2 rfl rfl);obtain⟨a3,len3,cap3,rfl⟩:=okWide_slice Tryz.underlying26 (kW 3 26 v3 rfl rfl);obtain⟨x4,rfl,rfl,rfl,b4⟩:=open_int Tryz.underlying3 (kW 4 3 v4 rfl rfl) h4;have h0k:=h0;obtain⟨fuel0,hf0⟩:=h0;have h1k:=h1;obtain⟨fuel1,LW⟩:=h1;have h2k:=h2;obtain⟨fuel2,LX⟩:=h2;have h3k:=h3;obtain⟨fuel3,hf3⟩:=h3;clear tD;have CM:∀ x ∈ p0,x.block<W.heap.size:=fun x hx=>En.lt x (by simp[hx])
 have Bg:∀ x ∈ p1,x.block<W.heap.size:=fun x hx=>En.lt x (by simp[hx])
 have zQ:∀ x ∈ p2,x.block<W.heap.size:=fun x hx=>En.lt x (by simp[hx])
 have S2:∀ x ∈ p3,x.block<W.heap.size:=fun x hx=>En.lt x (by simp[hx])
 obtain⟨x0,g0⟩:=ahs hf0 CM;obtain⟨x1,w1,xg,g1,r1⟩:=Ns LW Bg;obtain rfl:Value.slice a1 len1 cap1=w1:=by
  have:(Value.slice a1 len1 cap1).cells.toList=[Value.slice a1 len1 cap1]:=rfl;rw[this]at xg;simpa using xg
 obtain⟨x2,g2⟩:=Nr LX zQ;obtain⟨x3,w3,Tn,g3,r3⟩:=Ns hf3 S2;obtain rfl:Value.slice a3 len3 cap3=w3:=by
  have:(Value.slice a3 len3 cap3).cells.toList=[Value.slice a3 len3 cap3]:=rfl;rw[this]at Tn;simpa using Tn
 have lH:=(afZ x0 x1 x2 x3 x4 g0.1 g1 g2.1 g3).run W mU [.agg cs0,.slice a1 len1 cap1,.agg cs2,.slice a3 len3 cap3,.int .i64 x4] (alg rfl hL) (fun _ h=>h.elim) (.cons (ak8 (cs:=cs0) g0) (.cons r1 (.cons (aiX (cs:=cs2) g2) (.cons r3 (.cons (.v _) (.nil _ _ _))))));refine lH.mono fun r W' ⟨v,hr,hb,rG⟩=>?_
 obtain rfl:=iG.kJ rG;subst hr;refine⟨_,rfl,_,_,_,[],p0++(p1++(p2++(p3++([])))),[],En,?_,?_,rfl,hb.frame _,fun h=>by cases h⟩
 .exact trodAll_mk1 (shut_bool Tryz.underlying4 _)
 .exact ⟨p0,_,(Below.trod EV ah (ct ah) h0k hb CM),⟨p1,_,(Below.trod EV ah (ct ah) h1k hb Bg),⟨p2,_,(Below.trod EV ah (ct ah) h2k hb zQ),⟨p3,_,(Below.trod EV ah (ct ah) h3k hb S2),trodAll_mk1 (Below.trod EV ah (ct ah) h4 hb (fun _ h=>by cases h)),rfl⟩,rfl⟩,rfl⟩,rfl⟩
theorem ae9(os:Os):laidMet Tryz.prog Rows.picardImagesRow.laid ((MQ os Bs).forCall (fun _ _=>0) ⟨#[],Bs,[]⟩).memory:=
 laidMet_of_run' 8 ah ah 
theorem afb(os:Os){H:Type}(enc:TypeId×Value->H):∃ places,DataW.whole enc Tryz.prog ((MQ os Bs).forCall (fun _ _=>0) ⟨#[],Bs,[]⟩).memory Tryz.f3.params.toList Rows.picardImagesSpec.vars false Bs.toList 8=some ([acw,.nil,acq,.nil,.lit (.int .i64 0)],[],places):=
 ⟨[],ah⟩
set_option maxRecDepth 100000 in
theorem ae8(os:Os)(started:os.Started)(H:Type)(enc:TypeId×Value->H)(F:Stop.Interp):
  ReturnsInHanded {} Tryz.checked os 3 .any ((OpenSpec.ofChange Rows.picardImagesSpec).preRow enc Tryz.prog Tryz.f3 Rows.picardImagesRow.domain false Rows.picardImagesRow.laid) (((OpenSpec.ofChange Rows.picardImagesSpec).at F).post enc Tryz.prog Tryz.f3 false true false false):=by
 obtain⟨places,hx⟩:=afb os enc;refine returnsInHanded_of_row (C:=Tryz.checked) (s:=OpenSpec.ofChange Rows.picardImagesSpec) own started ah Tryz.func3
  (witness_row_at (enc:=enc) (C:=Tryz.checked) false (MQ os Bs) Bs rfl ah ah ah 
   (OpenSpec.preRow_of_cond 8 hx ah (fun k hk=>by cases hk) ah (ae9 os))) ?_
 intro W base args ds gs before kW hW _ _ _ hL _ _;exact ae6 H enc W base args ds gs before kW hW hL
set_option maxHeartbeats 100000000 in
theorem ae7:joinedFacts Tryz.prog 3 Tryz.f3 (OpenSpec.ofChange Rows.picardImagesSpec).bare Rows.picardImagesRow=true:=by
 unfold joinedFacts;simp only[bB]
 and_intros<;>decide +kernel
theorem afc:Rows.PicardImagesSaid:=
 OpenClaim.holds_of_cond 3 Tryz.f3 rfl rfl rfl rfl rfl rfl rfl ⟨rfl,rfl,rfl,rfl,rfl⟩ rfl rfl rfl rfl rfl ah Tryz.func3 ae7
  (ct ah) (by unfold Func.isWrapper;first|(rw[aR ar];kernel_rfl)|(rw[aQ ar];exact⟨rfl,rfl⟩))
  (fun os started H enc _ F=>by rw[OpenClaim.pre_eq_preRow];exact ae8 os started H enc F)
theorem afa (f:FuncId) (fn:Func) (hf:Tryz.pinned.checked.prog.funcNamed "flowpipe/flowpipelaw28.PicardImages" = some f) (hfn:Tryz.pinned.checked.prog.funcs[f]? = some fn):
 false=Tryz.pinned.checked.prog.looks []/\∀ (j:Nat) t,fn.params[j]? = some t->Tryz.pinned.checked.prog.wantsStandIn t=false:=by
 obtain rfl:f=3:=amL ((show Tryz.prog.funcNamed "flowpipe/flowpipelaw28.PicardImages" = some 3 by kernel_rfl).symm.trans hf) |>.symm
 obtain rfl:fn=Tryz.f3:=(amL (Tryz.func3.symm.trans hfn)).symm;refine⟨ah,fun j t ht=>?_⟩;rw[Tryz.params3]at ht;have:t=28\/t=26\/t=31\/t=3:=by
  have:=dz ht;simp only[fX,cU,List.not_mem_nil,or_false]at this;rcases this with h|h|h|h|h<;>subst h<;>simp
 rcases this with rfl|rfl|rfl|rfl
 .exact (show Tryz.prog.wantsStandIn 28=false by kernel_rfl)
 .exact (show Tryz.prog.wantsStandIn 26=false by kernel_rfl)
 .exact (show Tryz.prog.wantsStandIn 31=false by kernel_rfl)
 .exact (show Tryz.prog.wantsStandIn 3=false by kernel_rfl)
theorem images_card:Rows.PicardImagesCardSaid:=
 Claim7.holds_tied_plain_at .later [] _ _ _ _ afc (fun _ h=>by cases h) ah (fun _ h=>by cases h) picardImages_row_tie rfl ⟨rfl,rfl⟩ ah rfl afa (adV ada rfl)
end Go.Proofs.YtdgnpeddgdclhaaGreatDoor
