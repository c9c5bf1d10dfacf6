/- The law PicardHolds is true for all arguments: Holds reports which boxes are tubes. -/
import Derived.Test.YtdgnpeddgdclhaaGreatDoorM05
set_option linter.unusedSimpArgs false
set_option linter.unusedVariables false
set_option linter.defProp false
set_option maxHeartbeats 4000000
namespace Go.Proofs.YtdgnpeddgdclhaaGreatDoor
open Go.RowKit Fp Pu
def V5(d:Dy)(n p:Nat)(x:Nat):PS:=⟨35,true,[(10,.e (iP (((x+1):Nat):Int))),(9,.e (iP ((ix d p false x).2))),(8,.box 8 0),(6,.box 6 0),(3,.box 3 0),(1,.e (iP n)),(2,.e (iP p))],[(8,.cells 31 (jq ((ix d p false x).1))),(6,.cells 31 [(bP false),(.v (.slice none 0 0)),(iP 0)]),(3,.cells 31 (jq d))]⟩
def V6(d:Dy)(n N p:Nat)(x:Nat):PS:=⟨35,true,[(10,.e (iP (((x+1):Nat):Int))),(9,.e (iP ((ix d p false x).2))),(8,.box 8 0),(6,.box 6 0),(3,.box 3 0),(1,.e (iP n)),(2,.e (iP p))],[(8,.cells 31 (jq ((ix d p false x).1))),(6,.cells 31 [(bP false),(.v (.slice none 0 0)),(iP 0)]),(3,.cells 31 (jq d))]⟩
def V7(d:Dy)(n p:Nat)(x:Nat):PS:=⟨35,true,[(10,.e (iP (((x+1):Nat):Int))),(9,.e (iP ((ix d p true x).2))),(8,.box 8 0),(6,.box 6 0),(3,.box 3 0),(1,.e (iP n)),(2,.e (iP p))],[(8,.cells 31 (jq ((ix d p true x).1))),(6,.cells 31 [(bP false),(.v (.slice none 0 0)),(iP 0)]),(3,.cells 31 (jq d))]⟩
def V8(d:Dy)(n N p:Nat)(x:Nat):PS:=⟨35,true,[(10,.e (iP (((x+1):Nat):Int))),(9,.e (iP ((ix d p true x).2))),(8,.box 8 0),(6,.box 6 0),(3,.box 3 0),(1,.e (iP n)),(2,.e (iP p))],[(8,.cells 31 (jq ((ix d p true x).1))),(6,.cells 31 [(bP false),(.v (.slice none 0 0)),(iP 0)]),(3,.cells 31 (jq d))]⟩
noncomputable def Pg(t:pg)(xs:List Iv)(p:Nat)(x:Nat):PS:=⟨55,true,[(8,.e (iP x)),(7,.own 10),(3,.box 3 0),(2,.e (iP p))],[(10,.row true 41 ((iS t.gW xs p x).length) 7 (kf (iS t.gW xs p x))),(3,.cells 25 [(iP t.im),(nY t.gW),(nX t.ij)])]⟩
noncomputable def XO(t:pg)(xs:List Iv)(p:Nat)(x:Nat):PS:=⟨79,true,[(11,.own 11),(13,.e (iP x)),(12,.own 24),(10,.e (ig (iS t.gW xs p t.gW.length))),(4,.box 4 0),(2,.e (iP 0)),(3,.e (iP p))],[(11,.row true 41 x 7 (kf ((List.range x).map (fun j_=>(iS t.gW xs p t.gW.length).getD (t.ij.getD j_ 0) ie)))),(24,.qj true 26 41 t.ij.length 7 (fun _=>0) (fun _ _ _=>.any) .none),(4,.cells 25 [(iP t.im),(nY t.gW),(nX t.ij)])]⟩
noncomputable def XP(t:pg)(xs:List Iv)(p:Nat)(x:Nat):PS:=⟨79,true,[(14,.e (iP x)),(11,.e (ig ((List.range t.ij.length).map (fun j_=>(iS t.gW xs p t.gW.length).getD (t.ij.getD j_ 0) ie)))),(12,.own 24),(10,.e (ig (iS t.gW xs p t.gW.length))),(4,.box 4 0),(2,.e (iP 0)),(3,.e (iP p))],[(24,.qj true 26 41 t.ij.length 7 (fun _=>0) (fun _ _ _=>.any) .none),(4,.cells 25 [(iP t.im),(nY t.gW),(nX t.ij)])]⟩
def Xs(l:List Iv)(N:Nat)(i:Nat):PS:=⟨15,true,[(3,.e (iP i)),(0,.e (ig l))],[]⟩
def Xr(l:List Iv)(i:Nat):PS:=⟨15,true,[(3,.e (iP i)),(0,.e (ig l))],[]⟩
noncomputable def TG(s:lj)(x:List Iv)(d:Dy)(b:List Iv)(p:Nat)(N:Nat)(i:Nat):PS:=⟨64,true,[(13,.own 13),(14,.e (iP i)),(11,.e (ig (jf s.tape (b++s.params) p))),(7,.box 7 0),(1,.e (ig x)),(4,.e (iP p))],[(13,.row true 41 i 7 (kf ((List.range i).map (fun j_=>(jk (x.getD j_ ie) (iQ (jX d) ((jf s.tape (b++s.params) p).getD j_ ie) p) p))))),(7,.cells 31 (jq d))]⟩
noncomputable def TH(s:lj)(x:List Iv)(d:Dy)(b:List Iv)(p:Nat)(i:Nat):PS:=⟨64,true,[(13,.own 13),(14,.e (iP i)),(11,.e (ig (jf s.tape (b++s.params) p))),(7,.box 7 0),(1,.e (ig x)),(4,.e (iP p))],[(13,.row true 41 i 7 (kf ((List.range i).map (fun j_=>(jk (x.getD j_ ie) (iQ (jX d) ((jf s.tape (b++s.params) p).getD j_ ie) p) p))))),(7,.cells 31 (jq d))]⟩
def P5(x:List Iv)(i:Nat):PS:=⟨31,true,[(3,.e (iP i)),(0,.e (ig x))],[]⟩
def TR(x y:List Iv)(i:Nat):PS:=⟨29,true,[(6,.e (iP i)),(5,.e (bP true)),(0,.e (ig x)),(1,.e (ig y))],[]⟩
def TP(x y:List Iv)(N:Nat)(i:Nat):PS:=⟨29,true,[(6,.e (iP i)),(5,.e (bP (decide (i<=N)))),(0,.e (ig x)),(1,.e (ig y))],[]⟩
theorem Jg(d:Dy)(p:Nat)(up:Bool)(hd:d.ia)(il:8<=p)(ic:p<=512):gU 292 [(gY d),(iP p),(bP up)] (.iw [gY (jj d p up),iP (jz d p up)]):=by
 have hl:=hd.gV;have he:=hd.exp;have hx:(gV d.m).length<=2900 /\ -200000<=d.e/\d.e<=200000:=⟨ae,ae,ae⟩
 exact tr true Tryz.call292 Tryz.func292 (chain [.c (FE d d p af af ae ae),tB 14 (ag:((0:Int) != 0)=false),.c (NK d p up hx.1 hx.2.1 hx.2.2 ae ae)]<|.nil) ah 
theorem ait(d:Dy)(n p:Nat)(hd:d.ia)(hn:1<=n)(j8:n<=16)(il:8<=p)(ic:p<=512)(iH:∀ x,x<n-1->(ix d p false x).2=0):gU 272 [(gY d),(iP n),(iP p)] (.iw [gY (ix d p false (n-1)).1,iP (ix d p false (n-1)).2]):=by
 exact tr true Tryz.call272 Tryz.func272 (chain [.c (Jg d p false af ae ae),.s (Sp.jx (V5 d n p) 0 (n-1) ae (fun x hx ke=>by
    have mo:=iH x ae;have hv:=um d (show 1<=p by omega) (show p<=4096 by omega) false x;exact iB (chain [tT 19 ((((x+1):Nat):Int)<(n:Int)) ae,tB 22 (by rw[mo];rfl:(((ix d p false x).2)==0)=true),.c (vu ((ix d p false x).1) d p false af af ae ae),
     iq ((((x+1):Nat):Int)+1) ae]<|.e (chain [.o 9 (.int (by rw[sw mo];rfl):PV.le (.e (iP (jz (kJ ((ix d p false x).1) d) p false))) (.e (iP ((ix d p false (x+1)).2)))),.b 8 (.iU (by rw[sw mo];rfl):Bx.le (.cells 31 (jq (jj (kJ ((ix d p false x).1) d) p false))) (.cells 31 (jq ((ix d p false (x+1)).1))))]<|.nil)) ah)
  (fun hx=>by
    exact iB (chain [tF 19 (((((n-1)+1):Nat):Int)<(n:Int)) ae]<|.nil) ah) ak:ju 3 Tryz.f272 (V5 d n p 0) (.exit 0) ⟨35,true,[(9,.e (iP ((ix d p false (n-1)).2))),(8,.box 8 0),(6,.box 6 0)],[(8,.cells 31 (jq ((ix d p false (n-1)).1))),(6,.cells 31 [(bP false),(.v (.slice none 0 0)),(iP 0)])]⟩) (chain [.o 10 (.int rfl:PV.le (.e (iP 1)) (.e (iP (((0+1):Nat):Int)))),.o 9 (.int rfl:PV.le (.e (iP (jz d p false))) (.e (iP ((ix d p false 0).2)))),.b 8 (.iU rfl:Bx.le (.cells 31 (jq (jj d p false))) (.cells 31 (jq ((ix d p false 0).1))))]<|.nil)]<|.nil) ah 
theorem aiu(d:Dy)(n N p:Nat)(hd:d.ia)(hn:1<=n)(j8:n<=16)(il:8<=p)(ic:p<=512)(mG:N<n-1)(iH:∀ x,x<N->(ix d p false x).2=0)(hN:(ix d p false N).2≠0):gU 272 [(gY d),(iP n),(iP p)] (.iw [gY (ix d p false N).1,iP (ix d p false N).2]):=by
 exact tr true Tryz.call272 Tryz.func272 (chain [.c (Jg d p false af ae ae),.s (Sp.jx (V6 d n N p) 0 N ae (fun x hx ke=>by
    have mo:=iH x ae;have hv:=um d (show 1<=p by omega) (show p<=4096 by omega) false x;exact iB (chain [tT 19 ((((x+1):Nat):Int)<(n:Int)) ae,tB 22 (by rw[mo];rfl:(((ix d p false x).2)==0)=true),.c (vu ((ix d p false x).1) d p false af af ae ae),
     iq ((((x+1):Nat):Int)+1) ae]<|.e (chain [.o 9 (.int (by rw[sw mo];rfl):PV.le (.e (iP (jz (kJ ((ix d p false x).1) d) p false))) (.e (iP ((ix d p false (x+1)).2)))),.b 8 (.iU (by rw[sw mo];rfl):Bx.le (.cells 31 (jq (jj (kJ ((ix d p false x).1) d) p false))) (.cells 31 (jq ((ix d p false (x+1)).1))))]<|.nil)) ah)
  (fun hx=>by
    exact iB (chain [tT 19 ((((N+1):Nat):Int)<(n:Int)) ae,tB 22 (by simpa using hN:(((ix d p false N).2)==0)=false)]<|.nil) ah) ak:ju 3 Tryz.f272 (V6 d n N p 0) (.exit 0) ⟨35,true,[(9,.e (iP ((ix d p false N).2))),(8,.box 8 0),(6,.box 6 0)],[(8,.cells 31 (jq ((ix d p false N).1))),(6,.cells 31 [(bP false),(.v (.slice none 0 0)),(iP 0)])]⟩) (chain [.o 10 (.int rfl:PV.le (.e (iP 1)) (.e (iP (((0+1):Nat):Int)))),.o 9 (.int rfl:PV.le (.e (iP (jz d p false))) (.e (iP ((ix d p false 0).2)))),.b 8 (.iU rfl:Bx.le (.cells 31 (jq (jj d p false))) (.cells 31 (jq ((ix d p false 0).1))))]<|.nil)]<|.nil) ah 
theorem Dm(d:Dy)(n p:Nat)(hd:d.ia)(hn:1<=n)(j8:n<=16)(il:8<=p)(ic:p<=512):gU 272 [(gY d),(iP n),(iP p)] (.iw [gY (ix d p false (n-1)).1,iP (ix d p false (n-1)).2]):=by
 by_cases h:∃ x,x<n-1/\decide ((ix d p false x).2≠0)=true
 .obtain ⟨N,h1,h2,h3⟩:=qI h
  have hN:(ix d p false N).2≠0:=ct h2;have:=aiu d n N p hd hn j8 il ic h1 (fun x hx=>by simpa using h3 x hx) hN;have e:=FA d p false N hN (n-1-N);rw[show N+(n-1-N)=n-1 by omega]at e;rw[e];exact this
 .exact ait d n p hd hn j8 il ic fun x hx=>bE fun q=>h ⟨x,hx,aS q⟩
theorem aiv(d:Dy)(n p:Nat)(hd:d.ia)(hn:1<=n)(j8:n<=16)(il:8<=p)(ic:p<=512)(iH:∀ x,x<n-1->(ix d p true x).2=0):gU 273 [(gY d),(iP n),(iP p)] (.iw [gY (ix d p true (n-1)).1,iP (ix d p true (n-1)).2]):=by
 exact tr true Tryz.call273 Tryz.func273 (chain [.c (Jg d p true af ae ae),.s (Sp.jx (V7 d n p) 0 (n-1) ae (fun x hx ke=>by
    have mo:=iH x ae;have hv:=um d (show 1<=p by omega) (show p<=4096 by omega) true x;exact iB (chain [tT 19 ((((x+1):Nat):Int)<(n:Int)) ae,tB 22 (by rw[mo];rfl:(((ix d p true x).2)==0)=true),.c (vu ((ix d p true x).1) d p true af af ae ae),
     iq ((((x+1):Nat):Int)+1) ae]<|.e (chain [.o 9 (.int (by rw[sw mo];rfl):PV.le (.e (iP (jz (kJ ((ix d p true x).1) d) p true))) (.e (iP ((ix d p true (x+1)).2)))),.b 8 (.iU (by rw[sw mo];rfl):Bx.le (.cells 31 (jq (jj (kJ ((ix d p true x).1) d) p true))) (.cells 31 (jq ((ix d p true (x+1)).1))))]<|.nil)) ah)
  (fun hx=>by
    exact iB (chain [tF 19 (((((n-1)+1):Nat):Int)<(n:Int)) ae]<|.nil) ah) ak:ju 3 Tryz.f273 (V7 d n p 0) (.exit 0) ⟨35,true,[(9,.e (iP ((ix d p true (n-1)).2))),(8,.box 8 0),(6,.box 6 0)],[(8,.cells 31 (jq ((ix d p true (n-1)).1))),(6,.cells 31 [(bP false),(.v (.slice none 0 0)),(iP 0)])]⟩) (chain [.o 10 (.int rfl:PV.le (.e (iP 1)) (.e (iP (((0+1):Nat):Int)))),.o 9 (.int rfl:PV.le (.e (iP (jz d p true))) (.e (iP ((ix d p true 0).2)))),.b 8 (.iU rfl:Bx.le (.cells 31 (jq (jj d p true))) (.cells 31 (jq ((ix d p true 0).1))))]<|.nil)]<|.nil) ah 
theorem aiw(d:Dy)(n N p:Nat)(hd:d.ia)(hn:1<=n)(j8:n<=16)(il:8<=p)(ic:p<=512)(mG:N<n-1)(iH:∀ x,x<N->(ix d p true x).2=0)(hN:(ix d p true N).2≠0):gU 273 [(gY d),(iP n),(iP p)] (.iw [gY (ix d p true N).1,iP (ix d p true N).2]):=by
 exact tr true Tryz.call273 Tryz.func273 (chain [.c (Jg d p true af ae ae),.s (Sp.jx (V8 d n N p) 0 N ae (fun x hx ke=>by
    have mo:=iH x ae;have hv:=um d (show 1<=p by omega) (show p<=4096 by omega) true x;exact iB (chain [tT 19 ((((x+1):Nat):Int)<(n:Int)) ae,tB 22 (by rw[mo];rfl:(((ix d p true x).2)==0)=true),.c (vu ((ix d p true x).1) d p true af af ae ae),
     iq ((((x+1):Nat):Int)+1) ae]<|.e (chain [.o 9 (.int (by rw[sw mo];rfl):PV.le (.e (iP (jz (kJ ((ix d p true x).1) d) p true))) (.e (iP ((ix d p true (x+1)).2)))),.b 8 (.iU (by rw[sw mo];rfl):Bx.le (.cells 31 (jq (jj (kJ ((ix d p true x).1) d) p true))) (.cells 31 (jq ((ix d p true (x+1)).1))))]<|.nil)) ah)
  (fun hx=>by
    exact iB (chain [tT 19 ((((N+1):Nat):Int)<(n:Int)) ae,tB 22 (by simpa using hN:(((ix d p true N).2)==0)=false)]<|.nil) ah) ak:ju 3 Tryz.f273 (V8 d n N p 0) (.exit 0) ⟨35,true,[(9,.e (iP ((ix d p true N).2))),(8,.box 8 0),(6,.box 6 0)],[(8,.cells 31 (jq ((ix d p true N).1))),(6,.cells 31 [(bP false),(.v (.slice none 0 0)),(iP 0)])]⟩) (chain [.o 10 (.int rfl:PV.le (.e (iP 1)) (.e (iP (((0+1):Nat):Int)))),.o 9 (.int rfl:PV.le (.e (iP (jz d p true))) (.e (iP ((ix d p true 0).2)))),.b 8 (.iU rfl:Bx.le (.cells 31 (jq (jj d p true))) (.cells 31 (jq ((ix d p true 0).1))))]<|.nil)]<|.nil) ah 
theorem Dp(d:Dy)(n p:Nat)(hd:d.ia)(hn:1<=n)(j8:n<=16)(il:8<=p)(ic:p<=512):gU 273 [(gY d),(iP n),(iP p)] (.iw [gY (ix d p true (n-1)).1,iP (ix d p true (n-1)).2]):=by
 by_cases h:∃ x,x<n-1/\decide ((ix d p true x).2≠0)=true
 .obtain ⟨N,h1,h2,h3⟩:=qI h
  have hN:(ix d p true N).2≠0:=ct h2;have:=aiw d n N p hd hn j8 il ic h1 (fun x hx=>by simpa using h3 x hx) hN;have e:=FA d p true N hN (n-1-N);rw[show N+(n-1-N)=n-1 by omega]at e;rw[e];exact this
 .exact aiv d n p hd hn j8 il ic fun x hx=>bE fun q=>h ⟨x,hx,aS q⟩
theorem aix(x:Iv)(n p:Nat)(hx:x.ia)(ha:x.all=true)(hn:n<=16)(il:8<=p)(ic:p<=512):gU 227 [(gZ x),(iP n),(iP p)] (gZ (mi x n p)):=by
 exact tr true Tryz.call227 Tryz.func227 (chain [.c (BP (p:Int)),tB 13 (o0.2 ⟨ae,ae⟩:(lp (p:Int))=true),.c (uo x af),tB 17 (by rw[ha];rfl:(!x.all)=false),.c oG]<|rQ (gZ ie) (gZ (mi x n p)) (by unfold mi;rw[aR ha])) ah 
theorem aiB(x:Iv)(n p:Nat)(hx:x.ia)(ha:x.all=false)(h0:n=0)(il:8<=p)(ic:p<=512):gU 227 [(gZ x),(iP n),(iP p)] (gZ (mi x n p)):=by
 exact tr true Tryz.call227 Tryz.func227 (chain [.c (BP (p:Int)),tB 13 (o0.2 ⟨ae,ae⟩:(lp (p:Int))=true),.c (uo x af),tB 17 (by rw[ha];rfl:(!x.all)=true),tF 22 ((n:Int)<0) ae,tF 26 (16<(n:Int)) ae,tB 30 (rX h0:((n:Int)==0)=true),.c (WE _ ag:gU 81 [(iP 1)] _),.c (air (canon false 1 0))]<|rQ (gZ (mf (canon false 1 0))) (gZ (mi x n p)) (by unfold mi;rw[aQ (by rw[ha];decide),aR h0,Nl])) ah 
theorem aiy(x:Iv)(n p:Nat)(hx:x.ia)(ha:x.all=false)(h0:n≠0)(hn:n<=16)(he:n%2=0)(il:8<=p)(ic:p<=512):gU 227 [(gZ x),(iP n),(iP p)] (gZ (mi x n p)):=by
 have va:=DQ hx;obtain⟨w1,w2⟩:=va.ki;exact tr true Tryz.call227 Tryz.func227 (chain [.c (BP (p:Int)),tB 13 (o0.2 ⟨ae,ae⟩:(lp (p:Int))=true),.c (uo x af),tB 17 (by rw[ha];rfl:(!x.all)=true),tF 22 ((n:Int)<0) ae,tF 26 (16<(n:Int)) ae,tB 30 (nx h0:((n:Int)==0)=false),.a (ae:0<(2:Int)),.o 35 (.int (by rw[gH ae];omega):PV.le (.e (iP (Int.tmod (n:Int) 2))) (.e (iP (((n%2):Nat):Int)))),tB 36 (rX he:((((n%2):Nat):Int)==0)=true),.c (ain x af),.c (Dm ((iY x).lo) n p af ae ae ae ae),.c (vw _:gU 47 [(gY ((iY x).lo))] _)]<|.w ((Dy.iJ ((iY x).lo))<0)
  (fun k1=>chain [tB 50 (aS k1),.c (rZ _:gU 99 [(gY ((iY x).lo))] _),.c (Dp (iF ((iY x).lo)) n p (qt af) ae ae ae ae),.c (rZ _:gU 99 [(gY ((ix (iF ((iY x).lo)) p true (n-1)).1))] _),.c (Dp ((iY x).hi) n p af ae ae ae ae),.c (vw _:gU 47 [(gY ((iY x).hi))] _)]<|.w ((Dy.iJ ((iY x).hi))<0)
   (fun k2=>chain [tB 73 (aS k2),.c (rZ _:gU 99 [(gY ((iY x).hi))] _),.c (Dm (iF ((iY x).hi)) n p (qt af) ae ae ae ae),.c (rZ _:gU 99 [(gY ((ix (iF ((iY x).hi)) p false (n-1)).1))] _),.c (yT (iF ((ix (iF ((iY x).lo)) p true (n-1)).1)) (iF ((ix (iF ((iY x).hi)) p false (n-1)).1)) ((ix (iF ((iY x).lo)) p true (n-1)).2) ((ix (iF ((iY x).hi)) p false (n-1)).2))]<|rQ (gZ (kE (iF ((ix (iF ((iY x).lo)) p true (n-1)).1)) ((ix (iF ((iY x).lo)) p true (n-1)).2) (iF ((ix (iF ((iY x).hi)) p false (n-1)).1)) ((ix (iF ((iY x).hi)) p false (n-1)).2))) (gZ (mi x n p)) (by unfold mi qu;rw[aQ (by rw[ha];decide),aQ h0];rw[aR he];unfold kQ;(rw[aR k1,aR k2])<;>rfl))
   (fun k2=>chain [tB 73 (aT k2),.c (yT (iF ((ix (iF ((iY x).lo)) p true (n-1)).1)) ((ix ((iY x).hi) p true (n-1)).1) ((ix (iF ((iY x).lo)) p true (n-1)).2) ((ix ((iY x).hi) p true (n-1)).2))]<|rQ (gZ (kE (iF ((ix (iF ((iY x).lo)) p true (n-1)).1)) ((ix (iF ((iY x).lo)) p true (n-1)).2) ((ix ((iY x).hi) p true (n-1)).1) ((ix ((iY x).hi) p true (n-1)).2))) (gZ (mi x n p)) (by unfold mi qu;rw[aQ (by rw[ha];decide),aQ h0];rw[aR he];unfold kQ;(rw[aR k1,aQ k2])<;>rfl)))
  (fun k1=>chain [tB 50 (aT k1),.c (Dp ((iY x).hi) n p af ae ae ae ae),.c (vw _:gU 47 [(gY ((iY x).hi))] _)]<|.w ((Dy.iJ ((iY x).hi))<0)
   (fun k2=>chain [tB 73 (aS k2),.c (rZ _:gU 99 [(gY ((iY x).hi))] _),.c (Dm (iF ((iY x).hi)) n p (qt af) ae ae ae ae),.c (rZ _:gU 99 [(gY ((ix (iF ((iY x).hi)) p false (n-1)).1))] _),.c (yT ((ix ((iY x).lo) p false (n-1)).1) (iF ((ix (iF ((iY x).hi)) p false (n-1)).1)) ((ix ((iY x).lo) p false (n-1)).2) ((ix (iF ((iY x).hi)) p false (n-1)).2))]<|rQ (gZ (kE ((ix ((iY x).lo) p false (n-1)).1) ((ix ((iY x).lo) p false (n-1)).2) (iF ((ix (iF ((iY x).hi)) p false (n-1)).1)) ((ix (iF ((iY x).hi)) p false (n-1)).2))) (gZ (mi x n p)) (by unfold mi qu;rw[aQ (by rw[ha];decide),aQ h0];rw[aR he];unfold kQ;(rw[aQ k1,aR k2])<;>rfl))
   (fun k2=>chain [tB 73 (aT k2),.c (yT ((ix ((iY x).lo) p false (n-1)).1) ((ix ((iY x).hi) p true (n-1)).1) ((ix ((iY x).lo) p false (n-1)).2) ((ix ((iY x).hi) p true (n-1)).2))]<|rQ (gZ (kE ((ix ((iY x).lo) p false (n-1)).1) ((ix ((iY x).lo) p false (n-1)).2) ((ix ((iY x).hi) p true (n-1)).1) ((ix ((iY x).hi) p true (n-1)).2))) (gZ (mi x n p)) (by unfold mi qu;rw[aQ (by rw[ha];decide),aQ h0];rw[aR he];unfold kQ;(rw[aQ k1,aQ k2])<;>rfl)))) ah 
theorem aiz(x:Iv)(n p:Nat)(hx:x.ia)(ha:x.all=false)(h0:n≠0)(hn:n<=16)(he:¬n%2=0)(il:8<=p)(ic:p<=512):gU 227 [(gZ x),(iP n),(iP p)] (gZ (mi x n p)):=by
 have va:=hx;obtain⟨w1,w2⟩:=va.ki;exact tr true Tryz.call227 Tryz.func227 (chain [.c (BP (p:Int)),tB 13 (o0.2 ⟨ae,ae⟩:(lp (p:Int))=true),.c (uo x af),tB 17 (by rw[ha];rfl:(!x.all)=true),tF 22 ((n:Int)<0) ae,tF 26 (16<(n:Int)) ae,tB 30 (nx h0:((n:Int)==0)=false),.a (ae:0<(2:Int)),.o 35 (.int (by rw[gH ae];omega):PV.le (.e (iP (Int.tmod (n:Int) 2))) (.e (iP (((n%2):Nat):Int)))),tB 36 (nx he:((((n%2):Nat):Int)==0)=false),.c (Dm x.lo n p af ae ae ae ae),.c (vw _:gU 47 [(gY x.lo)] _)]<|.w ((Dy.iJ x.lo)<0)
  (fun k1=>chain [tB 50 (aS k1),.c (rZ _:gU 99 [(gY x.lo)] _),.c (Dp (iF x.lo) n p (qt af) ae ae ae ae),.c (rZ _:gU 99 [(gY ((ix (iF x.lo) p true (n-1)).1))] _),.c (Dp x.hi n p af ae ae ae ae),.c (vw _:gU 47 [(gY x.hi)] _)]<|.w ((Dy.iJ x.hi)<0)
   (fun k2=>chain [tB 73 (aS k2),.c (rZ _:gU 99 [(gY x.hi)] _),.c (Dm (iF x.hi) n p (qt af) ae ae ae ae),.c (rZ _:gU 99 [(gY ((ix (iF x.hi) p false (n-1)).1))] _),.c (yT (iF ((ix (iF x.lo) p true (n-1)).1)) (iF ((ix (iF x.hi) p false (n-1)).1)) ((ix (iF x.lo) p true (n-1)).2) ((ix (iF x.hi) p false (n-1)).2))]<|rQ (gZ (kE (iF ((ix (iF x.lo) p true (n-1)).1)) ((ix (iF x.lo) p true (n-1)).2) (iF ((ix (iF x.hi) p false (n-1)).1)) ((ix (iF x.hi) p false (n-1)).2))) (gZ (mi x n p)) (by unfold mi qu;rw[aQ (by rw[ha];decide),aQ h0];rw[aQ he];unfold kQ;(rw[aR k1,aR k2])<;>rfl))
   (fun k2=>chain [tB 73 (aT k2),.c (yT (iF ((ix (iF x.lo) p true (n-1)).1)) ((ix x.hi p true (n-1)).1) ((ix (iF x.lo) p true (n-1)).2) ((ix x.hi p true (n-1)).2))]<|rQ (gZ (kE (iF ((ix (iF x.lo) p true (n-1)).1)) ((ix (iF x.lo) p true (n-1)).2) ((ix x.hi p true (n-1)).1) ((ix x.hi p true (n-1)).2))) (gZ (mi x n p)) (by unfold mi qu;rw[aQ (by rw[ha];decide),aQ h0];rw[aQ he];unfold kQ;(rw[aR k1,aQ k2])<;>rfl)))
  (fun k1=>chain [tB 50 (aT k1),.c (Dp x.hi n p af ae ae ae ae),.c (vw _:gU 47 [(gY x.hi)] _)]<|.w ((Dy.iJ x.hi)<0)
   (fun k2=>chain [tB 73 (aS k2),.c (rZ _:gU 99 [(gY x.hi)] _),.c (Dm (iF x.hi) n p (qt af) ae ae ae ae),.c (rZ _:gU 99 [(gY ((ix (iF x.hi) p false (n-1)).1))] _),.c (yT ((ix x.lo p false (n-1)).1) (iF ((ix (iF x.hi) p false (n-1)).1)) ((ix x.lo p false (n-1)).2) ((ix (iF x.hi) p false (n-1)).2))]<|rQ (gZ (kE ((ix x.lo p false (n-1)).1) ((ix x.lo p false (n-1)).2) (iF ((ix (iF x.hi) p false (n-1)).1)) ((ix (iF x.hi) p false (n-1)).2))) (gZ (mi x n p)) (by unfold mi qu;rw[aQ (by rw[ha];decide),aQ h0];rw[aQ he];unfold kQ;(rw[aQ k1,aR k2])<;>rfl))
   (fun k2=>chain [tB 73 (aT k2),.c (yT ((ix x.lo p false (n-1)).1) ((ix x.hi p true (n-1)).1) ((ix x.lo p false (n-1)).2) ((ix x.hi p true (n-1)).2))]<|rQ (gZ (kE ((ix x.lo p false (n-1)).1) ((ix x.lo p false (n-1)).2) ((ix x.hi p true (n-1)).1) ((ix x.hi p true (n-1)).2))) (gZ (mi x n p)) (by unfold mi qu;rw[aQ (by rw[ha];decide),aQ h0];rw[aQ he];unfold kQ;(rw[aQ k1,aQ k2])<;>rfl)))) ah 
theorem aiA(x:Iv)(n p:Nat)(hx:x.ia)(hn:n<=16)(il:8<=p)(ic:p<=512):gU 227 [gZ x,iP (n:Int),iP (p:Int)] (gZ (mi x n p)):=by
 cases ha:x.all with
 |true=>exact aix x n p hx ha hn il ic
 |false=>
  by_cases h0:n=0
  .exact aiB x n p hx ha h0 il ic
  .by_cases he:n%2=0
   .exact aiy x n p hx ha h0 hn he il ic
   .exact aiz x n p hx ha h0 hn he il ic
theorem Y4(o:mX)(x y:Iv)(p:Nat)(hx:x.ia)(hy:y.ia)(r1:3<=o.kind)(r2:o.kind<=8)(r3:o.n<=16)(il:8<=p)(ic:p<=512):gU 186 [(iP o.kind),(iP o.n),(gZ x),(gZ y),(iP p)] (gZ (kG o x y p)):=by
 exact tr true Tryz.call186 Tryz.func186 (.w ((o.kind:Int)=3)
  (fun k1=>chain [tB 13 (aK k1),.c (FF x y p af af ae ae)]<|rQ (gZ (jk x y p)) (gZ (kG o x y p)) (by unfold kG;simp[show o.kind=3 from ae]))
  (fun k1=>chain [tB 13 (aJ k1)]<|.w ((o.kind:Int)=4)
   (fun k2=>chain [tB 19 (aK k2),.c (ais x y p af af ae ae)]<|rQ (gZ (FV x y p)) (gZ (kG o x y p)) (by unfold kG;simp[show ¬o.kind=3 from ae,show o.kind=4 from ae]))
   (fun k2=>chain [tB 19 (aJ k2)]<|.w ((o.kind:Int)=5)
    (fun k3=>chain [tB 25 (aK k3),.c (Jh x y p af af ae ae)]<|rQ (gZ (iQ x y p)) (gZ (kG o x y p)) (by unfold kG;simp[show ¬o.kind=3 from ae,show ¬o.kind=4 from ae,show o.kind=5 from ae]))
    (fun k3=>chain [tB 25 (aJ k3)]<|.w ((o.kind:Int)=6)
     (fun k4=>chain [tB 31 (aK k4),.c (aio x y p af af ae ae)]<|rQ (gZ (jS x y p)) (gZ (kG o x y p)) (by unfold kG;simp[show ¬o.kind=3 from ae,show ¬o.kind=4 from ae,show ¬o.kind=5 from ae,show o.kind=6 from ae]))
     (fun k4=>chain [tB 31 (aJ k4)]<|.w ((o.kind:Int)=7)
      (fun k5=>chain [tB 37 (aK k5),.c (V2 x af)]<|rQ (gZ (qJ x)) (gZ (kG o x y p)) (by unfold kG;simp[show ¬o.kind=3 from ae,show ¬o.kind=4 from ae,show ¬o.kind=5 from ae,show ¬o.kind=6 from ae,show o.kind=7 from ae]))
      (fun k5=>chain [tB 37 (aJ k5)]<|.w ((o.kind:Int)=8)
       (fun k6=>chain [tB 41 (aK k6),.c (aiA _ _ _ af ae ae ae:gU 227 [(gZ x),(iP o.n),(iP p)] _)]<|rQ (gZ (mi x o.n p)) (gZ (kG o x y p)) (by unfold kG;simp[show ¬o.kind=3 from ae,show ¬o.kind=4 from ae,show ¬o.kind=5 from ae,show ¬o.kind=6 from ae,show ¬o.kind=7 from ae,show o.kind=8 from ae]))
       (fun k6=>.x ae))))))) ah 
theorem YY{o:mX}(h:¬o.kind<=6)(x y z:Iv)(p:Nat):kG o x y p=kG o x z p:=by
 unfold kG;have h3:¬o.kind=3:= ae ;have h4:¬o.kind=4:= ae ;have h5:¬o.kind=5:= ae ;have h6:¬o.kind=6:= ae ;rw[aQ h3,aQ h4,aQ h5,aQ h6,aQ h3,aQ h4,aQ h5,aQ h6]
theorem Y0{o:mX}(h:o.kind≠1)(l:List Iv)(p:Nat):sE o l p=kG o (l.getD o.a ie) (l.getD o.b ie) p:=by
 unfold sE GB;rw[aQ h];by_cases h6:o.kind<=6
 .rw [aS h6];rfl
 .rw [aT h6];exact YY h6 _ _ _ _
theorem nn.ZM{o:mX}{m:Nat}(h:nn o m)(hm:1<=m):o.b<m:=by
 have:=h.b;split at this<;>omega
theorem afo{a q:List Iv}:E.le (.sl true (0+a.length+q.length) 7 fun i j=>if i<0+a.length then(fun i_ j_=>if i_<0 then(fun i_ j_=>([]:List E).getD (i_*7+j_) (.v (.bool false))) i_ j_ else(E.mc (ig a)) (i_-0) j_) i j else(E.mc (ig q)) (i-(0+a.length)) j) (ig (a++q)):=by
 have e:ig (a++q) = .sl true (0+a.length+q.length) 7 (kf (a++q)):=by unfold ig;rw[cg,bW]
 rw[e];refine .sl fun i j hi hj=>⟨.iU ?_,C3 _ _ hj⟩
 rw[bW];by_cases h:i<a.length
 .rw [aR h]
  show(iZ (a.getD i ie)).getD j .any=(iZ ((a++q).getD i ie)).getD j .any;congr 2;simp[aW,eo h]
 .rw [aQ h]
  show(iZ (q.getD (i-a.length) ie)).getD j .any=(iZ ((a++q).getD i ie)).getD j .any;congr 2;simp[aW,eV (show a.length<=i by omega)]
theorem YU(t:pg)(xs:List Iv)(p:Nat)(h:zj t)(hr:rF t)(h1:1<=xs.length)(hx:xs.length=t.im)(hv:pV xs)(il:8<=p)(ic:p<=512):gU 152 [(y4 t),(ig xs),(iP p)] (ig (iS t.gW xs p t.gW.length)):=by
 have h8:=h.im;have Bl:=h.gW;exact tr true Tryz.call152 Tryz.func152 (chain [.bo,.a (ae:(0+xs.length)*88<=140737488355328),.s (Sp.jx (Pg t xs p) 0 t.gW.length ae (fun x hx ke=>by
    have iE:=h.op x ae;have ud:=F7 t.gW hv (show 1<=p by omega) (show p<=4096 by omega) x;have L9:=F5 t.gW xs p x;have w1:=ud ((t.gW.getD x iT)).a;by_cases oh:((t.gW.getD x iT)).kind=1
    .have q7:((t.gW.getD x iT)).kind=1:=oh
     obtain⟨o1,o2,o3,sf⟩:=iE.num q7;have wA:sE (t.gW.getD x iT) (iS t.gW xs p x) p=(nI (t.gW.getD x iT).cn (t.gW.getD x iT).cd p):=by unfold sE;rw[aR q7]
     have tX:=tD (nI (t.gW.getD x iT).cn (t.gW.getD x iT).cd p);exact iB (chain [tT 17 ((x:Int)<(t.gW.length:Int)) ae,iX ((x:Int)) (t.gW.length) ae,tB 27 (aK ae:(((t.gW.getD x iT).kind:Int)==1)=true),.c (ab7 _ _ _ af ae ae:gU 185 [(.agg [(iP ((t.gW.getD x iT).cn)),(iP ((t.gW.getD x iT).cd))]),(iP p)] _),.o 33 (.e (mC _):PV.le (.e (.sl true 1 7 fun i_ j_=>(iZ (nI ((t.gW.getD x iT).cn) ((t.gW.getD x iT).cd) p)).getD (i_*7+j_) (.v (.bool false)))) (.e (ig [(nI ((t.gW.getD x iT).cn) ((t.gW.getD x iT).cd) p)]))),.a (ae:((iS t.gW xs p x).length+[(nI ((t.gW.getD x iT).cn) ((t.gW.getD x iT).cd) p)].length)*88<=140737488355328),iq ((x:Int)+1) ae]<|.e (chain [.b 10 (F6 rfl rfl wA:Bx.le (.row true 41 ((iS t.gW xs p x).length+[(nI ((t.gW.getD x iT).cn) ((t.gW.getD x iT).cd) p)].length) 7 (fun i_ j_=>if i_<(iS t.gW xs p x).length then(kf (iS t.gW xs p x)) i_ j_ else(E.mc (ig [(nI ((t.gW.getD x iT).cn) ((t.gW.getD x iT).cd) p)])) (i_-(iS t.gW xs p x).length) j_)) (.row true 41 ((iS t.gW xs p (x+1)).length) 7 (kf (iS t.gW xs p (x+1)))))]<|.nil)) ah 
    .have yl:((t.gW.getD x iT)).kind≠1:=oh
     have wA:sE (t.gW.getD x iT) (iS t.gW xs p x) p=(kG (t.gW.getD x iT) ((iS t.gW xs p x).getD ((t.gW.getD x iT).a) ie) ((iS t.gW xs p x).getD ((t.gW.getD x iT).b) ie) p):=Y0 yl _ _;have hk3:=iE.k3.resolve_left yl;have tS:=hr x;have oa:=iE.O7 yl;have ob:=iE.ZM ae;have w2:=ud ((t.gW.getD x iT)).b;have o8:=Vq iE;have tX:=tD (kG (t.gW.getD x iT) ((iS t.gW xs p x).getD ((t.gW.getD x iT).a) ie) ((iS t.gW xs p x).getD ((t.gW.getD x iT).b) ie) p);exact iB (chain [tT 17 ((x:Int)<(t.gW.length:Int)) ae,iX ((x:Int)) (t.gW.length) ae,tB 27 (aJ ae:(((t.gW.getD x iT).kind:Int)==1)=false),
      iX (((t.gW.getD x iT).a:Int)) ((iS t.gW xs p x).length) ae,.a (ae:(t.gW.getD x iT).a<(iS t.gW xs p x).length),iX (((t.gW.getD x iT).b:Int)) ((iS t.gW xs p x).length) ae,.a (ae:(t.gW.getD x iT).b<(iS t.gW xs p x).length),.c (Y4 (t.gW.getD x iT) _ _ _ w1 w2 ae ae ae ae ae:gU 186 [(iP ((t.gW.getD x iT).kind:Int)),(iP ((t.gW.getD x iT).n:Int)),(gZ ((iS t.gW xs p x).getD (t.gW.getD x iT).a ie)),(gZ ((iS t.gW xs p x).getD (t.gW.getD x iT).b ie)),(iP p)] _),.o 52 (.e (mC _):PV.le (.e (.sl true 1 7 fun i_ j_=>(iZ (kG (t.gW.getD x iT) ((iS t.gW xs p x).getD (t.gW.getD x iT).a ie) ((iS t.gW xs p x).getD (t.gW.getD x iT).b ie) p)).getD (i_*7+j_) (.v (.bool false)))) (.e (ig [(kG (t.gW.getD x iT) ((iS t.gW xs p x).getD (t.gW.getD x iT).a ie) ((iS t.gW xs p x).getD (t.gW.getD x iT).b ie) p)]))),.a (ae:((iS t.gW xs p x).length+[(kG (t.gW.getD x iT) ((iS t.gW xs p x).getD (t.gW.getD x iT).a ie) ((iS t.gW xs p x).getD (t.gW.getD x iT).b ie) p)].length)*88<=140737488355328),
      iq ((x:Int)+1) ae]<|.e (chain [.b 10 (F6 rfl rfl wA:Bx.le (.row true 41 ((iS t.gW xs p x).length+[(kG (t.gW.getD x iT) ((iS t.gW xs p x).getD (t.gW.getD x iT).a ie) ((iS t.gW xs p x).getD (t.gW.getD x iT).b ie) p)].length) 7 (fun i_ j_=>if i_<(iS t.gW xs p x).length then(kf (iS t.gW xs p x)) i_ j_ else(E.mc (ig [(kG (t.gW.getD x iT) ((iS t.gW xs p x).getD (t.gW.getD x iT).a ie) ((iS t.gW xs p x).getD (t.gW.getD x iT).b ie) p)])) (i_-(iS t.gW xs p x).length) j_)) (.row true 41 ((iS t.gW xs p (x+1)).length) 7 (kf (iS t.gW xs p (x+1)))))]<|.nil)) ah)
  (fun hx=>by
    exact iB (chain [tF 17 ((t.gW.length:Int)<(t.gW.length:Int)) ae,.z 10]<|.e (chain [.o 7 (.e (Ah aj):PV.le (.e (.sl true ((iS t.gW xs p t.gW.length).length) 7 (kf (iS t.gW xs p t.gW.length)))) (.e (ig (iS t.gW xs p t.gW.length))))]<|.nil)) ah) ak:ju 3 Tryz.f152 (Pg t xs p 0) (.exit 0) ⟨55,true,[(7,.e (ig (iS t.gW xs p t.gW.length)))],[]⟩) (chain [.b 10 (P7 rfl fun i j hi hj=>⟨rfl,C3 _ _ hj⟩:Bx.le (.row true 41 (0+xs.length) 7 (fun i_ j_=>if i_<0 then(fun i_ j_=>([]:List E).getD (i_*7+j_) (.v (.bool false))) i_ j_ else(E.mc (ig xs)) (i_-0) j_)) (.row true 41 ((iS t.gW xs p 0).length) 7 (kf (iS t.gW xs p 0))))]<|.nil)]<|.nil) ah 
theorem TO(s:lj)(b:List Iv)(h1:b.length<=400)(h2:s.params.length<=400):gU 104 [(iM s),(ig b)] (ig (b++s.params)):=by
 exact tr true Tryz.call104 Tryz.func104 (chain [.bo,.a (ae:(0+b.length)*88<=140737488355328),.a (ae:((0+b.length)+s.params.length)*88<=140737488355328)]<|rR (ig (b++s.params)) (afo:E.le (.sl true ((0+b.length)+s.params.length) 7 (fun i_ j_=>if i_<(0+b.length)then(fun i_ j_=>if i_<0 then(fun i_ j_=>([]:List E).getD (i_*7+j_) (.v (.bool false))) i_ j_ else(E.mc (ig b)) (i_-0) j_) i_ j_ else(E.mc (ig s.params)) (i_-(0+b.length)) j_)) (ig (b++s.params)))) ah 
theorem XQ(t:pg)(xs:List Iv)(p:Nat)(h:zj t)(hr:rF t)(h1:1<=xs.length)(hx:xs.length=t.im)(hv:pV xs)(il:8<=p)(ic:p<=512):gU 103 [(y4 t),(ig xs),(iP 0),(iP p)] (.iw [ig (jf t xs p),qf (List.replicate t.ij.length [])]):=by
 have h8:=h.im;have Bl:=h.gW;have mT:=h.ij;exact tr true Tryz.call103 Tryz.func103 (chain [.c (YU t xs p h hr h1 hx hv ae ae),.a (ae:0<=((t.ij.length:Int):Int)/\((t.ij.length:Int):Int)<=((t.ij.length:Int):Int)),.a (ae:((24:Nat):Int)*(t.ij.length:Int)<=281474976710656/\((t.ij.length:Int):Int)<=9223372036854775807),.y 11 11 true 41 7 (kf ((List.range 0).map (fun j_=>(iS t.gW xs p t.gW.length).getD (t.ij.getD j_ 0) ie))),.s (Sp.jx (XO t xs p) 0 t.ij.length ae (fun x hx ke=>by
    have hot:=h.out x ae;have L9:=F5 t.gW xs p t.gW.length;have tX:=tD ((iS t.gW xs p t.gW.length).getD (t.ij.getD x 0) ie);exact iB (chain [tT 29 ((x:Int)<(t.ij.length:Int)) ae,iX ((x:Int)) (t.ij.length) ae,iX ((t.ij.getD x 0:Int)) ((iS t.gW xs p t.gW.length).length) ae,.o 41 (.e (mC _):PV.le (.e (.sl true 1 7 fun i_ j_=>(iZ ((iS t.gW xs p t.gW.length).getD (t.ij.getD x 0) ie)).getD (i_*7+j_) (.v (.bool false)))) (.e (ig [((iS t.gW xs p t.gW.length).getD (t.ij.getD x 0) ie)]))),.a (ae:(x+[((iS t.gW xs p t.gW.length).getD (t.ij.getD x 0) ie)].length)*88<=140737488355328),iq ((x:Int)+1) ae]<|.e (chain [.b 11 (yG rfl rfl rfl:Bx.le (.row true 41 (x+[((iS t.gW xs p t.gW.length).getD (t.ij.getD x 0) ie)].length) 7 (fun i_ j_=>if i_<x then(kf ((List.range x).map (fun j_=>(iS t.gW xs p t.gW.length).getD (t.ij.getD j_ 0) ie))) i_ j_ else(E.mc (ig [((iS t.gW xs p t.gW.length).getD (t.ij.getD x 0) ie)])) (i_-x) j_)) (.row true 41 (x+1) 7 (kf ((List.range (x+1)).map (fun j_=>(iS t.gW xs p t.gW.length).getD (t.ij.getD j_ 0) ie)))))]<|.nil)) ah)
  (fun hx=>by
    exact iB (chain [tF 29 ((t.ij.length:Int)<(t.ij.length:Int)) ae,.z 11]<|.e (chain [.o 11 (.e (Ah aj):PV.le (.e (.sl true t.ij.length 7 (kf ((List.range t.ij.length).map (fun j_=>(iS t.gW xs p t.gW.length).getD (t.ij.getD j_ 0) ie))))) (.e (ig ((List.range t.ij.length).map (fun j_=>(iS t.gW xs p t.gW.length).getD (t.ij.getD j_ 0) ie)))))]<|.nil)) ah) ak:ju 5 Tryz.f103 (XO t xs p 0) (.exit 0) ⟨79,true,[(11,.e (ig ((List.range t.ij.length).map (fun j_=>(iS t.gW xs p t.gW.length).getD (t.ij.getD j_ 0) ie)))),(12,.own 24),(10,.e (ig (iS t.gW xs p t.gW.length))),(4,.box 4 0),(2,.e (iP 0)),(3,.e (iP p))],[(24,.qj true 26 41 t.ij.length 7 (fun _=>0) (fun _ _ _=>.any) .none),(4,.cells 25 [(iP t.im),(nY t.gW),(nX t.ij)])]⟩) .nil,.s (Sp.jx (XP t xs p) 0 0 ae (fun x hx ke=>by
    exact absurd ke (bj _))
  (fun hx=>by
    exact iB (chain [tB 45 (ag:(decide ((0:Int)<0))=false)]<|.nil) ah) ak:ju 9 Tryz.f103 (XP t xs p 0) (.exit 2) ⟨79,true,[(11,.e (ig ((List.range t.ij.length).map (fun j_=>(iS t.gW xs p t.gW.length).getD (t.ij.getD j_ 0) ie)))),(12,.own 24)],[(24,.qj true 26 41 t.ij.length 7 (fun _=>0) (fun _ _ _=>.any) .none)]⟩) .nil]<|rR (.iw [ig (jf t xs p),qf (List.replicate t.ij.length [])]) (.iw (.cons (.iU (by rw[RB])) (.cons WS .nil)):E.le (.iw [(ig ((List.range t.ij.length).map (fun j_=>(iS t.gW xs p t.gW.length).getD (t.ij.getD j_ 0) ie))),(.sl true t.ij.length 1 fun k_ _=>.sl true ((fun _=>0) k_) 7 ((fun _ _ _=>.any) k_))]) (.iw [ig (jf t xs p),qf (List.replicate t.ij.length [])]))) ah 
theorem akz(l:List Iv)(hl:l.length<=1000)(N:Nat)(mG:N<l.length)(iH:∀ i,i<N->(l.getD i ie).all=false)(hN:(l.getD N ie).all=true):gU 105 [(ig l)] (bP true):=by
 exact tr true Tryz.call105 Tryz.func105 (chain [.s (Sp.jx (Xs l N) 0 N ae (fun i hi pL=>by
    exact iB (chain [tT 7 ((i:Int)<(l.length:Int)) ae,iX ((i:Int)) (l.length) ae,tB 14 (iH i ae:(l.getD i ie).all=false),iq ((i:Int)+1) ae]<|.nil) ah)
  (fun hi=>by
    exact iB (chain [tT 7 ((N:Int)<(l.length:Int)) ae,iX ((N:Int)) (l.length) ae,tB 14 (hN:(l.getD N ie).all=true)]<|.nil) ah) ak:ju 2 Tryz.f105 (Xs l N 0) .ret ⟨15,true,[(2,.e (bP true))],[]⟩) .nil]<|.nil) ah 
theorem aky(l:List Iv)(hl:l.length<=1000)(iH:∀ i,i<l.length->(l.getD i ie).all=false):gU 105 [(ig l)] (bP false):=by
 exact tr true Tryz.call105 Tryz.func105 (chain [.s (Sp.jx (Xr l) 0 l.length ae (fun i hi pL=>by
    exact iB (chain [tT 7 ((i:Int)<(l.length:Int)) ae,iX ((i:Int)) (l.length) ae,tB 14 (iH i ae:(l.getD i ie).all=false),iq ((i:Int)+1) ae]<|.nil) ah)
  (fun hi=>by
    exact iB (chain [tF 7 ((l.length:Int)<(l.length:Int)) ae]<|.nil) ah) ak:ju 2 Tryz.f105 (Xr l 0) (.exit 0) ⟨15,true,[],[]⟩) .nil]<|.nil) ah 
theorem Xt(l:List Iv)(hl:l.length<=1000):gU 105 [ig l] (bP (nf l)):=by
 cases h:nf l with
 |false=>exact aky l hl fun i hi=>by simpa using List.any_eq_false.1 h i (bJ.2 hi)
 |true=>
  unfold nf at h;rw[di]at h;obtain⟨i,hi,hb⟩:=h;obtain⟨N,h1,h2,h3⟩:=qI (p:=fun i=>(l.getD i ie).all) ⟨i,bJ.1 hi,hb⟩;exact akz l hl N h1 h3 h2
theorem Rz(s:lj)(b:List Iv)(p:Nat)(iN:gU 15 [iM s,ig b] (bP true))(il:8<=p)(ic:p<=512):gU 102 [(iM s),(ig b),(iP p)] (iP 0):=by
 exact tr true Tryz.call102 Tryz.func102 (chain [.c (iN:gU 15 [(iM s),(ig b)] _),.c (NT _:gU 48 [(iP p)] _),tB 12 (o0.2 ⟨ae,ae⟩:(lp (p:Int))=true)]<|.nil) ah 
theorem ac3(s:lj)(b:List Iv)(p:Nat)(h:mz s)(hr:rF s.tape)(hb:ks s.iz b)(iN:gU 15 [iM s,ig b] (bP true))(il:8<=p)(ic:p<=512)(hn:nf (jf s.tape (b++s.params) p)=true):gU 59 [(iM s),(ig b),(iP p)] (.iw [.v (.slice none 0 0),iP 11]):=by
 have s4:=h.s4;have p4:=h.p4;have tk:=hb.len;have mT:=h.tape.ij;have xi:=zJ s.tape (b++s.params) p;obtain⟨f1,f2,f3,f4⟩:=zz h hb;exact tr true Tryz.call59 Tryz.func59 (chain [.c (Rz _ _ _ iN ae ae:gU 102 [(iM s),(ig b),(iP p)] _),tB 16 (ag:((0:Int) != 0)=false),.c (TO s b ae ae),.c (XQ s.tape (b++s.params) p f1 hr f2 f3 f4 ae ae),.c (Xt _ ae:gU 105 [(ig (jf s.tape (b++s.params) p))] _),tB 29 (hn:(nf (jf s.tape (b++s.params) p))=true)]<|.nil) ah 
theorem RA(s:lj)(b:List Iv)(p:Nat)(h:mz s)(hr:rF s.tape)(hb:ks s.iz b)(iN:gU 15 [iM s,ig b] (bP true))(il:8<=p)(ic:p<=512)(hn:nf (jf s.tape (b++s.params) p)=false):gU 59 [(iM s),(ig b),(iP p)] (.iw [ig (jf s.tape (b++s.params) p),iP 0]):=by
 have s4:=h.s4;have p4:=h.p4;have tk:=hb.len;have mT:=h.tape.ij;have xi:=zJ s.tape (b++s.params) p;obtain⟨f1,f2,f3,f4⟩:=zz h hb;exact tr true Tryz.call59 Tryz.func59 (chain [.c (Rz _ _ _ iN ae ae:gU 102 [(iM s),(ig b),(iP p)] _),tB 16 (ag:((0:Int) != 0)=false),.c (TO s b ae ae),.c (XQ s.tape (b++s.params) p f1 hr f2 f3 f4 ae ae),.c (Xt _ ae:gU 105 [(ig (jf s.tape (b++s.params) p))] _),tB 29 (hn:(nf (jf s.tape (b++s.params) p))=false)]<|.nil) ah 
theorem ae9(s:lj)(x:List Iv)(d:Dy)(b:List Iv)(p:Nat)(h:mz s)(hx:ks s.iz x)(hd:d.ia)(h0:0<d.iJ)(hb:ks s.iz b)(il:8<=p)(ic:p<=512)(hr:rF s.tape)(lQ:gU 14 [iM s,ig x,gY d,iP (p:Int)] (bP true))(iN:gU 15 [iM s,ig b] (bP true))(hn:nf (jf s.tape (b++s.params) p)=true):gU 22 [(iM s),(ig x),(gY d),(ig b),(iP p)] (.v (.slice none 0 0)):=by
 have s4:=h.s4;exact tr true Tryz.call22 Tryz.func22 (chain [.c (lQ:gU 14 [(iM s),(ig x),(gY d),(iP p)] _),.c (iN:gU 15 [(iM s),(ig b)] _),.c (ac3 _ _ _ h hr hb iN il ic hn:gU 59 [(iM s),(ig b),(iP p)] _),tB 36 (ag:((11:Int) != 0)=true)]<|.nil) ah 
theorem afa(s:lj)(x:List Iv)(d:Dy)(b:List Iv)(p:Nat)(h:mz s)(hx:ks s.iz x)(hd:d.ia)(h0:0<d.iJ)(hb:ks s.iz b)(il:8<=p)(ic:p<=512)(hr:rF s.tape)(lQ:gU 14 [iM s,ig x,gY d,iP (p:Int)] (bP true))(iN:gU 15 [iM s,ig b] (bP true))(hn:nf (jf s.tape (b++s.params) p)=false)(N:Nat)(mG:N<x.length)(iH:∀ i,i<N->(jk (x.getD i ie) (iQ (jX d) ((jf s.tape (b++s.params) p).getD i ie) p) p).all=false)(hN:(jk (x.getD N ie) (iQ (jX d) ((jf s.tape (b++s.params) p).getD N ie) p) p).all=true):gU 22 [(iM s),(ig x),(gY d),(ig b),(iP p)] (.v (.slice none 0 0)):=by
 have s4:=h.s4;have rm:=hx.len;have mT:=h.ij;have xi:=zJ s.tape (b++s.params) p;obtain⟨f1,f2,f3,f4⟩:=zz h hb;have fv:=Hh s.tape f4 (show 1<=p by omega) (show p<=4096 by omega);have hq:0<d.q:=(re d).1.1 h0;have Mk:=JE hd (bB hq);exact tr true Tryz.call22 Tryz.func22 (chain [.c (lQ:gU 14 [(iM s),(ig x),(gY d),(iP p)] _),.c (iN:gU 15 [(iM s),(ig b)] _),.c (RA _ _ _ h hr hb iN il ic hn:gU 59 [(iM s),(ig b),(iP p)] _),tB 36 (ag:((0:Int) != 0)=false),.y 13 13 true 41 7 (kf ((List.range 0).map (fun j_=>(jk (x.getD j_ ie) (iQ (jX d) ((jf s.tape (b++s.params) p).getD j_ ie) p) p)))),.s (Sp.jx (TG s x d b p N) 0 N ae (fun i hi pL=>by
    have w1:=(hx.ok i ae).1;have w2:=fv i;have w3:=qU (jX d) ((jf s.tape (b++s.params) p).getD i ie) (show 1<=p by omega) (show p<=4096 by omega);have tX:=tD (jk (x.getD i ie) (iQ (jX d) ((jf s.tape (b++s.params) p).getD i ie) p) p);exact iB (chain [tT 40 ((i:Int)<(x.length:Int)) ae,iX ((i:Int)) (x.length) ae,.o 48 (.e (DE d):PV.le (.e (.agg ([(bP false),(.v (.slice none 0 0)),(iP 0)]++jq d++[(bP false)]))) (.e (gZ (jX d)))),iX ((i:Int)) ((jf s.tape (b++s.params) p).length) ae,.c (Jh (jX d) ((jf s.tape (b++s.params) p).getD i ie) p af af ae ae),.c (FF (x.getD i ie) (iQ (jX d) ((jf s.tape (b++s.params) p).getD i ie) p) p af (qU _ _ ae ae) ae ae),tB 58 (iH i ae:(jk (x.getD i ie) (iQ (jX d) ((jf s.tape (b++s.params) p).getD i ie) p) p).all=false),.o 61 (.e (mC _):PV.le (.e (.sl true 1 7 fun i_ j_=>(iZ (jk (x.getD i ie) (iQ (jX d) ((jf s.tape (b++s.params) p).getD i ie) p) p)).getD (i_*7+j_) (.v (.bool false)))) (.e (ig [(jk (x.getD i ie) (iQ (jX d) ((jf s.tape (b++s.params) p).getD i ie) p) p)]))),.a (ae:(i+[(jk (x.getD i ie) (iQ (jX d) ((jf s.tape (b++s.params) p).getD i ie) p) p)].length)*88<=140737488355328),iq ((i:Int)+1) ae]<|.e (chain [.b 13 (yG rfl rfl rfl:Bx.le (.row true 41 (i+[(jk (x.getD i ie) (iQ (jX d) ((jf s.tape (b++s.params) p).getD i ie) p) p)].length) 7 (fun i_ j_=>if i_<i then(kf ((List.range i).map (fun j_=>(jk (x.getD j_ ie) (iQ (jX d) ((jf s.tape (b++s.params) p).getD j_ ie) p) p)))) i_ j_ else(E.mc (ig [(jk (x.getD i ie) (iQ (jX d) ((jf s.tape (b++s.params) p).getD i ie) p) p)])) (i_-i) j_)) (.row true 41 (i+1) 7 (kf ((List.range (i+1)).map (fun j_=>(jk (x.getD j_ ie) (iQ (jX d) ((jf s.tape (b++s.params) p).getD j_ ie) p) p))))))]<|.nil)) ah)
  (fun hi=>by
    have w1:=(hx.ok N ae).1;have w2:=fv N;have w3:=qU (jX d) ((jf s.tape (b++s.params) p).getD N ie) (show 1<=p by omega) (show p<=4096 by omega);exact iB (chain [tT 40 ((N:Int)<(x.length:Int)) ae,iX ((N:Int)) (x.length) ae,.o 48 (.e (DE d):PV.le (.e (.agg ([(bP false),(.v (.slice none 0 0)),(iP 0)]++jq d++[(bP false)]))) (.e (gZ (jX d)))),iX ((N:Int)) ((jf s.tape (b++s.params) p).length) ae,.c (Jh (jX d) ((jf s.tape (b++s.params) p).getD N ie) p af af ae ae),.c (FF (x.getD N ie) (iQ (jX d) ((jf s.tape (b++s.params) p).getD N ie) p) p af (qU _ _ ae ae) ae ae),tB 58 (hN:(jk (x.getD N ie) (iQ (jX d) ((jf s.tape (b++s.params) p).getD N ie) p) p).all=true)]<|.nil) ah) ak:ju 8 Tryz.f22 (TG s x d b p N 0) .ret ⟨64,true,[(10,.e (.v (.slice none 0 0)))],[]⟩) .nil]<|.nil) ah 
theorem afb(s:lj)(x:List Iv)(d:Dy)(b:List Iv)(p:Nat)(h:mz s)(hx:ks s.iz x)(hd:d.ia)(h0:0<d.iJ)(hb:ks s.iz b)(il:8<=p)(ic:p<=512)(hr:rF s.tape)(lQ:gU 14 [iM s,ig x,gY d,iP (p:Int)] (bP true))(iN:gU 15 [iM s,ig b] (bP true))(hn:nf (jf s.tape (b++s.params) p)=false)(iH:∀ i,i<x.length->(jk (x.getD i ie) (iQ (jX d) ((jf s.tape (b++s.params) p).getD i ie) p) p).all=false):gU 22 [(iM s),(ig x),(gY d),(ig b),(iP p)] (ig ((List.range x.length).map (fun j_=>(jk (x.getD j_ ie) (iQ (jX d) ((jf s.tape (b++s.params) p).getD j_ ie) p) p)))):=by
 have s4:=h.s4;have rm:=hx.len;have mT:=h.ij;have xi:=zJ s.tape (b++s.params) p;obtain⟨f1,f2,f3,f4⟩:=zz h hb;have fv:=Hh s.tape f4 (show 1<=p by omega) (show p<=4096 by omega);have hq:0<d.q:=(re d).1.1 h0;have Mk:=JE hd (bB hq);exact tr true Tryz.call22 Tryz.func22 (chain [.c (lQ:gU 14 [(iM s),(ig x),(gY d),(iP p)] _),.c (iN:gU 15 [(iM s),(ig b)] _),.c (RA _ _ _ h hr hb iN il ic hn:gU 59 [(iM s),(ig b),(iP p)] _),tB 36 (ag:((0:Int) != 0)=false),.y 13 13 true 41 7 (kf ((List.range 0).map (fun j_=>(jk (x.getD j_ ie) (iQ (jX d) ((jf s.tape (b++s.params) p).getD j_ ie) p) p)))),.s (Sp.jx (TH s x d b p) 0 x.length ae (fun i hi pL=>by
    have w1:=(hx.ok i ae).1;have w2:=fv i;have w3:=qU (jX d) ((jf s.tape (b++s.params) p).getD i ie) (show 1<=p by omega) (show p<=4096 by omega);have tX:=tD (jk (x.getD i ie) (iQ (jX d) ((jf s.tape (b++s.params) p).getD i ie) p) p);exact iB (chain [tT 40 ((i:Int)<(x.length:Int)) ae,iX ((i:Int)) (x.length) ae,.o 48 (.e (DE d):PV.le (.e (.agg ([(bP false),(.v (.slice none 0 0)),(iP 0)]++jq d++[(bP false)]))) (.e (gZ (jX d)))),iX ((i:Int)) ((jf s.tape (b++s.params) p).length) ae,.c (Jh (jX d) ((jf s.tape (b++s.params) p).getD i ie) p af af ae ae),.c (FF (x.getD i ie) (iQ (jX d) ((jf s.tape (b++s.params) p).getD i ie) p) p af (qU _ _ ae ae) ae ae),tB 58 (iH i ae:(jk (x.getD i ie) (iQ (jX d) ((jf s.tape (b++s.params) p).getD i ie) p) p).all=false),.o 61 (.e (mC _):PV.le (.e (.sl true 1 7 fun i_ j_=>(iZ (jk (x.getD i ie) (iQ (jX d) ((jf s.tape (b++s.params) p).getD i ie) p) p)).getD (i_*7+j_) (.v (.bool false)))) (.e (ig [(jk (x.getD i ie) (iQ (jX d) ((jf s.tape (b++s.params) p).getD i ie) p) p)]))),.a (ae:(i+[(jk (x.getD i ie) (iQ (jX d) ((jf s.tape (b++s.params) p).getD i ie) p) p)].length)*88<=140737488355328),iq ((i:Int)+1) ae]<|.e (chain [.b 13 (yG rfl rfl rfl:Bx.le (.row true 41 (i+[(jk (x.getD i ie) (iQ (jX d) ((jf s.tape (b++s.params) p).getD i ie) p) p)].length) 7 (fun i_ j_=>if i_<i then(kf ((List.range i).map (fun j_=>(jk (x.getD j_ ie) (iQ (jX d) ((jf s.tape (b++s.params) p).getD j_ ie) p) p)))) i_ j_ else(E.mc (ig [(jk (x.getD i ie) (iQ (jX d) ((jf s.tape (b++s.params) p).getD i ie) p) p)])) (i_-i) j_)) (.row true 41 (i+1) 7 (kf ((List.range (i+1)).map (fun j_=>(jk (x.getD j_ ie) (iQ (jX d) ((jf s.tape (b++s.params) p).getD j_ ie) p) p))))))]<|.nil)) ah)
  (fun hi=>by
    exact iB (chain [tF 40 ((x.length:Int)<(x.length:Int)) ae,.z 13]<|.e (chain [.o 13 (.e (Ah aj):PV.le (.e (.sl true x.length 7 (kf ((List.range x.length).map (fun j_=>(jk (x.getD j_ ie) (iQ (jX d) ((jf s.tape (b++s.params) p).getD j_ ie) p) p)))))) (.e (ig ((List.range x.length).map (fun j_=>(jk (x.getD j_ ie) (iQ (jX d) ((jf s.tape (b++s.params) p).getD j_ ie) p) p))))))]<|.nil)) ah) ak:ju 8 Tryz.f22 (TH s x d b p 0) (.exit 0) ⟨64,true,[(13,.e (ig ((List.range x.length).map (fun j_=>(jk (x.getD j_ ie) (iQ (jX d) ((jf s.tape (b++s.params) p).getD j_ ie) p) p)))))],[]⟩) .nil]<|.nil) ah 
theorem TJ(s:lj)(x:List Iv)(d:Dy)(b:List Iv)(p:Nat)(h:mz s)(hx:ks s.iz x)(hd:d.ia)(h0:0<d.iJ)(hb:ks s.iz b)(il:8<=p)(ic:p<=512)(hr:rF s.tape)(lQ:gU 14 [iM s,ig x,gY d,iP (p:Int)] (bP true))(iN:gU 15 [iM s,ig b] (bP true)):gU 22 [(iM s),(ig x),(gY d),(ig b),(iP p)] (ig (kT s x d b p)):=by
 unfold kT;cases hn:nf (jf s.tape (b++s.params) p)with
 |true=>rw[aR rfl];exact(ae9 s x d b p h hx hd h0 hb il ic hr lQ iN hn).jV (.nil _ _ _)
 |false=>
  rw[aQ ag];cases ha:nf (wC x (jf s.tape (b++s.params) p) d p)with
  |true=>
   rw[aR rfl];unfold nf at ha;rw[di,C1]at ha;obtain⟨i,hi,me⟩:=ha;obtain⟨N,h1,h2,h3⟩:=qI (p:=fun i=>((wC x (jf s.tape (b++s.params) p) d p).getD i ie).all) ⟨i,bJ.1 hi,me⟩;refine(afa s x d b p h hx hd h0 hb il ic hr lQ iN hn N h1 (fun i hi=>?_) ?_).jV (.nil _ _ _)
   .have:=h3 i hi;rw[Bv (show i<x.length by omega)]at this;exact this
   .rw [Bv h1]at h2;exact h2
  |false=>
   rw[aQ ag];refine afb s x d b p h hx hd h0 hb il ic hr lQ iN hn fun i hi=>?_
   unfold nf at ha;rw[dX,C1]at ha;have:=ha i (bJ.2 hi);rw[Bv hi]at this;exact aM this
theorem NL(x y:Iv)(hx:x.ia)(hy:y.ia):gU 55 [(gZ x),(gZ y)] (bP (pP x y)):=by
 obtain⟨w1,w2⟩:=hx.ki;obtain⟨w3,w4⟩:=hy.ki;exact tr true Tryz.call55 Tryz.func55 (chain [.c (Dl x af),.c (Dl y af)]<|.w (x.all=true)
  (fun k1=>chain [tB 15 (k1),.c (Dl x af),.c (Dl y af)]<|rQ (bP y.all) (bP (pP x y)) (nc (by rw[cQ];unfold pP;simp[k1])))
  (fun k1=>chain [tB 15 (aM k1)]<|.w (y.all=true)
   (fun k2=>chain [tB 28 (k2)]<|rQ (bP true) (bP (pP x y)) (nc (by rw[cQ];unfold pP;simp[k1,k2])))
   (fun k2=>chain [tB 28 (aM k2),.c (BQ y.lo x.lo (Dy.ia.rq af) (Dy.ia.rq af))]<|.w ((jo y.lo x.lo)<=0)
    (fun k3=>chain [tB 35 (aS k3),.c (BQ x.hi y.hi (Dy.ia.rq af) (Dy.ia.rq af))]<|rQ (bP (decide ((jo x.hi y.hi)<=0))) (bP (pP x y)) (nc (by rw[cQ];unfold pP;simp[k1,k2,k3])))
    (fun k3=>chain [tB 35 (aT k3)]<|rQ (bP false) (bP (pP x y)) (nc (by rw[cQ];unfold pP;simp[k1,k2,k3])))))) ah 
theorem P6(x:List Iv)(x1:1<=x.length)(x8:x.length<=8)(hx:oO x):gU 100 [(ig x)] (bP true):=by
 exact tr true Tryz.call100 Tryz.func100 (chain [tF 6 ((x.length:Int)<1) ae,tF 10 (8<(x.length:Int)) ae,.s (Sp.jx (P5 x) 0 x.length ae (fun i hi pL=>by
    have Ty:=hx i ae;exact iB (chain [tT 15 ((i:Int)<(x.length:Int)) ae,iX ((i:Int)) (x.length) ae,tB 22 (Ty.2:(x.getD i ie).all=false),iX ((i:Int)) (x.length) ae,.c (Dl (x.getD i ie) Ty.1),iq ((i:Int)+1) ae]<|.nil) ah)
  (fun hi=>by
    exact iB (chain [tF 15 ((x.length:Int)<(x.length:Int)) ae]<|.nil) ah) ak:ju 4 Tryz.f100 (P5 x 0) (.exit 0) ⟨31,true,[],[]⟩) .nil]<|.nil) ah 
theorem Vu(x y:List Iv)(x1:1<=x.length)(x8:x.length<=8)(hl:x.length=y.length)(hx:oO x)(hy:oO y):gU 54 [(ig x),(ig y)] (bP true):=by
 exact tr true Tryz.call54 Tryz.func54 (chain [.c (P6 x ae ae hx),.c (P6 y ae ae hy),tB 16 (IZ hl:((x.length:Int)==(y.length:Int))=true)]<|.nil) ah 
theorem afq(x y:List Iv)(x1:1<=x.length)(x8:x.length<=8)(hl:x.length=y.length)(hx:oO x)(hy:oO y)(iH:∀ i,i<x.length->(pP (x.getD i ie) (y.getD i ie))=true):gU 20 [(ig x),(ig y)] (bP true):=by
 exact tr true Tryz.call20 Tryz.func20 (chain [.c (Vu x y x1 x8 hl hx hy),.s (Sp.jx (TR x y) 0 x.length ae (fun i hi pL=>by
    have v1:=(hx i ae).1;have v2:=(hy i ae).1;exact iB (chain [tT 15 ((i:Int)<(x.length:Int)) ae,iX ((i:Int)) (x.length) ae,iX ((i:Int)) (y.length) ae,.c (NL (x.getD i ie) (y.getD i ie) v1 v2),.o 27 (.bool (iH i ae):PV.le (.e (bP (pP (x.getD i ie) (y.getD i ie)))) (.e (bP true))),iq ((i:Int)+1) ae]<|.nil) ah)
  (fun hi=>by
    exact iB (chain [tF 15 ((x.length:Int)<(x.length:Int)) ae]<|.nil) ah) ak:ju 3 Tryz.f20 (TR x y 0) (.exit 0) ⟨29,true,[(5,.e (bP true))],[]⟩) .nil]<|.nil) ah 
theorem afp(x y:List Iv)(x1:1<=x.length)(x8:x.length<=8)(hl:x.length=y.length)(hx:oO x)(hy:oO y)(N:Nat)(mG:N<x.length)(iH:∀ i,i<N->(pP (x.getD i ie) (y.getD i ie))=true)(hN:(pP (x.getD N ie) (y.getD N ie))=false):gU 20 [(ig x),(ig y)] (bP false):=by
 exact tr true Tryz.call20 Tryz.func20 (chain [.c (Vu x y x1 x8 hl hx hy),.s (Sp.jx (TP x y N) 0 (N+1) ae (fun i hi pL=>by
    have v1:=(hx i ae).1;have v2:=(hy i ae).1;by_cases hq:i<N
    .exact iB (chain [tT 10 (i<=N) ae,tT 15 ((i:Int)<(x.length:Int)) ae,iX ((i:Int)) (x.length) ae,iX ((i:Int)) (y.length) ae,.c (NL (x.getD i ie) (y.getD i ie) v1 v2),iq ((i:Int)+1) ae]<|.e (chain [.o 5 (.bool ((iH i ae).trans (aS ae).symm):PV.le (.e (bP (pP (x.getD i ie) (y.getD i ie)))) (.e (bP (decide ((i+1)<=N)))))]<|.nil)) ah 
    .exact iB (chain [tT 10 (i<=N) ae,tT 15 ((i:Int)<(x.length:Int)) ae,iX ((i:Int)) (x.length) ae,iX ((i:Int)) (y.length) ae,.c (NL (x.getD i ie) (y.getD i ie) v1 v2),iq ((i:Int)+1) ae]<|.e (chain [.o 5 (.bool ((show(pP (x.getD i ie) (y.getD i ie))=false by rw[show i=N by omega];exact hN).trans (aT ae).symm):PV.le (.e (bP (pP (x.getD i ie) (y.getD i ie)))) (.e (bP (decide ((i+1)<=N)))))]<|.nil)) ah)
  (fun hi=>by
    exact iB (chain [tF 10 ((N+1)<=N) ae]<|.nil) ah) ak:ju 3 Tryz.f20 (TP x y N 0) (.exit 0) ⟨29,true,[(5,.e (bP (decide ((N+1)<=N))))],[]⟩) (chain [.o 5 (.bool (aS (bL _)).symm:PV.le (.e (bP true)) (.e (bP (decide (0<=N)))))]<|.nil)]<|rQ (bP (decide ((N+1)<=N))) (bP false) (nc (aT ae))) ah 
theorem TS(x y:List Iv)(x1:1<=x.length)(x8:x.length<=8)(hl:x.length=y.length)(hx:oO x)(hy:oO y):gU 20 [(ig x),(ig y)] (bP (mU x y)):=by
 by_cases c:mU x y=true
 .rw [c]
  exact afq x y x1 x8 hl hx hy fun i hi=>bH.1 c i (bJ.2 hi)
 .rw [aM c]
  obtain⟨N,n1,n2,n3⟩:=xP c;exact afp x y x1 x8 hl hx hy N n1 (fun k hk=>by simpa using n3 k hk) (by simpa using n2)
theorem aeA(s:lj)(x:List Iv)(d:Dy)(b:List Iv)(p:Nat)(h:mz s)(hx:ks s.iz x)(hd:d.ia)(h0:0<d.iJ)(hb:ks s.iz b)(il:8<=p)(ic:p<=512)(hr:rF s.tape)(lQ:gU 14 [iM s,ig x,gY d,iP (p:Int)] (bP true))(iN:gU 15 [iM s,ig b] (bP true))(hi:(kT s x d b p)=[]):gU 25 [(iM s),(ig x),(gY d),(ig b),(iP p)] (bP false):=by
 exact tr true Tryz.call25 Tryz.func25 (chain [.c (TJ s x d b p h hx hd h0 hb il ic hr lQ iN:gU 22 [(iM s),(ig x),(gY d),(ig b),(iP p)] _),tB 20 (by rw[hi];rfl:(decide (0<((kT s x d b p).length:Int)))=false)]<|.nil) ah 
theorem aeB(s:lj)(x:List Iv)(d:Dy)(b:List Iv)(p:Nat)(h:mz s)(hx:ks s.iz x)(hd:d.ia)(h0:0<d.iJ)(hb:ks s.iz b)(il:8<=p)(ic:p<=512)(hr:rF s.tape)(lQ:gU 14 [iM s,ig x,gY d,iP (p:Int)] (bP true))(iN:gU 15 [iM s,ig b] (bP true))(hi:(kT s x d b p)≠[]):gU 25 [(iM s),(ig x),(gY d),(ig b),(iP p)] (bP (mU x b&&mU (kT s x d b p) b)):=by
 have s1:=h.s1;have s4:=h.s4;obtain⟨x1,x4,xo⟩:=oc hx s1 s4;obtain⟨b1,b4,bo⟩:=oc hb s1 s4;have rm:=hx.len;have tk:=hb.len;have pJ:=Ad hx (show 1<=p by omega) (show p<=4096 by omega) hi;obtain⟨i1,i4,io⟩:=oc pJ s1 s4;have Bg:=pJ.len;exact tr true Tryz.call25 Tryz.func25 (chain [.c (TJ s x d b p h hx hd h0 hb il ic hr lQ iN:gU 22 [(iM s),(ig x),(gY d),(ig b),(iP p)] _),tT 20 (0<((kT s x d b p).length:Int)) ae,.c (TS x b ae ae ae hx.ok hb.ok)]<|.w (mU x b=true)
  (fun k1=>chain [tB 24 (k1),.c (TS (kT s x d b p) b ae ae ae pJ.ok hb.ok)]<|rQ (bP (mU (kT s x d b p) b)) (bP (mU x b&&mU (kT s x d b p) b)) (by simp[k1]))
  (fun k1=>chain [tB 24 (aM k1)]<|rQ (bP false) (bP (mU x b&&mU (kT s x d b p) b)) (by simp[k1]))) ah 
theorem Is(s:lj)(x:List Iv)(d:Dy)(b:List Iv)(p:Nat)(h:mz s)(hx:ks s.iz x)(hd:d.ia)(h0:0<d.iJ)(hb:ks s.iz b)(il:8<=p)(ic:p<=512)(hr:rF s.tape)(lQ:gU 14 [iM s,ig x,gY d,iP (p:Int)] (bP true))(iN:gU 15 [iM s,ig b] (bP true)):gU 25 [(iM s),(ig x),(gY d),(ig b),(iP p)] (bP (qF s x d b p)):=by
 unfold qF;by_cases hi:(kT s x d b p)=[]
 .have:=aeA s x d b p h hx hd h0 hb il ic hr lQ iN hi
  rwa[hi,show(!([]:List Iv).isEmpty&&(mU x b&&mU [] b))=false from rfl]
 .have:=aeB s x d b p h hx hd h0 hb il ic hr lQ iN hi
  have e:((kT s x d b p)).isEmpty=false:=by
   cases q:(kT s x d b p)with
   |nil=>exact absurd q hi
   |cons _ _=>rfl
  rwa[e,dH,dZ]
open Go.RowKit Fp Pu
theorem aeC(s:jr)(x:List RI)(d:RD)(b:List RI)(p:Int)(g:s.jg)(gx:∀ i,(x.getD i jt).jg)(gd:d.jg)(gb:∀ i,(b.getD i jt).jg)(hE:(¬rK s=true\/¬pA x=true\/¬pA b=true\/py d=true\/200<p)):gU 4 [(kZ s),(jW x),(mr d),(jW b),(iP p)] (bP true):=by
 exact tr true Tryz.call4 Tryz.func4 (chain [.c wE,.c (IN s)]<|.w (rK s=true)
  (fun k1=>chain [tB 16 (k1),.c (yI x)]<|.w (pA x=true)
   (fun k2=>chain [tB 20 (k2),.c (yI b)]<|.w (pA b=true)
    (fun k3=>chain [tB 25 (k3),.c (C6 d)]<|.w (py d=true)
     (fun k4=>chain [tB 30 (k4)]<|.nil)
     (fun k4=>chain [tB 30 (aM k4)]<|.w (200<p)
      (fun k5=>chain [tB 34 (aS k5)]<|.nil)
      (fun k5=>.x (by rcases hE with q|q|q|q|q<;>first|contradiction|omega))))
    (fun k3=>chain [tB 25 (aM k3)]<|.nil))
   (fun k2=>chain [tB 20 (aM k2)]<|.nil))
  (fun k1=>chain [tB 16 (aM k1)]<|.nil)) ah 
theorem aeJ(s:jr)(x:List RI)(d:RD)(b:List RI)(p:Int)(g:s.jg)(gx:∀ i,(x.getD i jt).jg)(gd:d.jg)(gb:∀ i,(b.getD i jt).jg)(h1:rK s=true)(h2:pA x=true)(w8:pA b=true)(h3:py d=false)(h4:p<=200)(hf:mv s x d p=false):gU 4 [(kZ s),(jW x),(mr d),(jW b),(iP p)] (bP true):=by
 have sm:=Le h1;have ln:x.length<=1000:=by have:=B0 h2;omega
 have nE:b.length<=1000:=by have:=B0 w8;omega
 have hh:zY s x d b p=false:=by unfold zY;rw[hf];rfl
 exact tr true Tryz.call4 Tryz.func4 (chain [.c wE,.c (IN s),tB 17 (by rw[h1];rfl:(!(rK s))=false),.c (yI x),tB 21 (by rw[h2];rfl:(!(pA x))=false),.c (yI b),tB 26 (by rw[w8];rfl:(!(pA b))=false),.c (C6 d),tB 30 (h3:(py d)=false),tF 34 (200<p) ae,.c (S7 s g sm x gx ln d gd p b gb nE),tB 41 (hh:(zY s x d b p)=false),.c (by rw[<-hf];exact NJ s g sm x gx ln d gd p:gU 14 [(kZ s),(jW x),(mr d),(iP p)] (bP false))]<|.nil) ah 
theorem aeK(s:jr)(x:List RI)(d:RD)(b:List RI)(p:Int)(g:s.jg)(gx:∀ i,(x.getD i jt).jg)(gd:d.jg)(gb:∀ i,(b.getD i jt).jg)(h1:rK s=true)(h2:pA x=true)(w8:pA b=true)(h3:py d=false)(h4:p<=200)(hf:mv s x d p=true)(vZ:pW s.iz b=false):gU 4 [(kZ s),(jW x),(mr d),(jW b),(iP p)] (bP true):=by
 have sm:=Le h1;have ln:x.length<=1000:=by have:=B0 h2;omega
 have nE:b.length<=1000:=by have:=B0 w8;omega
 have LN:tK s b=false:=by unfold tK;rw[vZ,Bool.and_false]
 have hh:zY s x d b p=false:=by unfold zY;rw[hf,vZ];rfl
 exact tr true Tryz.call4 Tryz.func4 (chain [.c wE,.c (IN s),tB 17 (by rw[h1];rfl:(!(rK s))=false),.c (yI x),tB 21 (by rw[h2];rfl:(!(pA x))=false),.c (yI b),tB 26 (by rw[w8];rfl:(!(pA b))=false),.c (C6 d),tB 30 (h3:(py d)=false),tF 34 (200<p) ae,.c (S7 s g sm x gx ln d gd p b gb nE),tB 41 (hh:(zY s x d b p)=false),.c (by rw[<-hf];exact NJ s g sm x gx ln d gd p:gU 14 [(kZ s),(jW x),(mr d),(iP p)] (bP true)),.c (by rw[<-LN];exact Jf s g sm b gb nE:gU 15 [(kZ s),(jW b)] (bP false))]<|.nil) ah 
theorem aeM(s:lj)(x:List Iv)(d:Dy)(b:List Iv)(p:Nat)(h:mz s)(hx:ks s.iz x)(hd:d.ia)(h0:0<d.iJ)(hb:ks s.iz b)(il:8<=p)(ic:p<=512)(p200:p<=200)(po:gU 10 [iM s] (bP true))(pt:gU 11 [ig x] (bP true))(pv:gU 11 [ig b] (bP true))(pq:gU 12 [gY d] (bP false))(lQ:gU 14 [iM s,ig x,gY d,iP (p:Int)] (bP true))(iN:gU 15 [iM s,ig b] (bP true))(pr:gU 16 [iM s] (bP true))(hr:rF s.tape)(hh:qF s x d b p=true):gU 4 [(iM s),(ig x),(gY d),(ig b),(iP p)] (bP true):=by
 have s1:=h.s1;have s4:=h.s4;obtain⟨x1,x4,xo⟩:=oc hx s1 s4;obtain⟨b1,b4,bo⟩:=oc hb s1 s4;have rm:=hx.len;have tk:=hb.len;obtain⟨hi,k2,k3⟩:=It.1 hh;have pJ:=Ad hx (show 1<=p by omega) (show p<=4096 by omega) hi;obtain⟨i1,i4,io⟩:=oc pJ s1 s4;have Bg:=pJ.len;exact tr true Tryz.call4 Tryz.func4 (chain [.c wE,.c (po:gU 10 [(iM s)] _),.c (pt:gU 11 [(ig x)] _),.c (pv:gU 11 [(ig b)] _),.c (pq:gU 12 [(gY d)] _),tF 34 (200<(p:Int)) ae,.c (by rw[<-hh];exact u9 s x d b p h hx hd h0 hb il ic:gU 23 [(iM s),(ig x),(gY d),(ig b),(iP p)] (bP true)),.c (lQ:gU 14 [(iM s),(ig x),(gY d),(iP p)] _),.c (iN:gU 15 [(iM s),(ig b)] _),.c (xr s x d b p h hx hd h0 hb il ic),tT 65 (0<((kT s x d b p).length:Int)) ae,.c (uN x b ae ae ae af af),tB 69 (k2),.c (uN (kT s x d b p) b ae ae ae af af),tB 74 (k3),tB 76 (rfl:(!(true==true))=false),.c (pr:gU 16 [(iM s)] _),.c (by rw[<-hh];exact Is s x d b p h hx hd h0 hb il ic hr lQ iN:gU 25 [(iM s),(ig x),(gY d),(ig b),(iP p)] (bP true))]<|.nil) ah 
theorem aeL(s:lj)(x:List Iv)(d:Dy)(b:List Iv)(p:Nat)(h:mz s)(hx:ks s.iz x)(hd:d.ia)(h0:0<d.iJ)(hb:ks s.iz b)(il:8<=p)(ic:p<=512)(p200:p<=200)(po:gU 10 [iM s] (bP true))(pt:gU 11 [ig x] (bP true))(pv:gU 11 [ig b] (bP true))(pq:gU 12 [gY d] (bP false))(lQ:gU 14 [iM s,ig x,gY d,iP (p:Int)] (bP true))(iN:gU 15 [iM s,ig b] (bP true))(pr:gU 16 [iM s] (bP false))(hh:qF s x d b p=true):gU 4 [(iM s),(ig x),(gY d),(ig b),(iP p)] (bP true):=by
 have s1:=h.s1;have s4:=h.s4;obtain⟨x1,x4,xo⟩:=oc hx s1 s4;obtain⟨b1,b4,bo⟩:=oc hb s1 s4;have rm:=hx.len;have tk:=hb.len;obtain⟨hi,k2,k3⟩:=It.1 hh;have pJ:=Ad hx (show 1<=p by omega) (show p<=4096 by omega) hi;obtain⟨i1,i4,io⟩:=oc pJ s1 s4;have Bg:=pJ.len;exact tr true Tryz.call4 Tryz.func4 (chain [.c wE,.c (po:gU 10 [(iM s)] _),.c (pt:gU 11 [(ig x)] _),.c (pv:gU 11 [(ig b)] _),.c (pq:gU 12 [(gY d)] _),tF 34 (200<(p:Int)) ae,.c (by rw[<-hh];exact u9 s x d b p h hx hd h0 hb il ic:gU 23 [(iM s),(ig x),(gY d),(ig b),(iP p)] (bP true)),.c (lQ:gU 14 [(iM s),(ig x),(gY d),(iP p)] _),.c (iN:gU 15 [(iM s),(ig b)] _),.c (xr s x d b p h hx hd h0 hb il ic),tT 65 (0<((kT s x d b p).length:Int)) ae,.c (uN x b ae ae ae af af),tB 69 (k2),.c (uN (kT s x d b p) b ae ae ae af af),tB 74 (k3),tB 76 (rfl:(!(true==true))=false),.c (pr:gU 16 [(iM s)] _)]<|.nil) ah 
theorem aeE(s:lj)(x:List Iv)(d:Dy)(b:List Iv)(p:Nat)(h:mz s)(hx:ks s.iz x)(hd:d.ia)(h0:0<d.iJ)(hb:ks s.iz b)(il:8<=p)(ic:p<=512)(p200:p<=200)(po:gU 10 [iM s] (bP true))(pt:gU 11 [ig x] (bP true))(pv:gU 11 [ig b] (bP true))(pq:gU 12 [gY d] (bP false))(lQ:gU 14 [iM s,ig x,gY d,iP (p:Int)] (bP true))(iN:gU 15 [iM s,ig b] (bP true))(pr:gU 16 [iM s] (bP true))(hr:rF s.tape)(hh:qF s x d b p=false)(hi:(kT s x d b p)=[]):gU 4 [(iM s),(ig x),(gY d),(ig b),(iP p)] (bP true):=by
 have s1:=h.s1;have s4:=h.s4;obtain⟨x1,x4,xo⟩:=oc hx s1 s4;obtain⟨b1,b4,bo⟩:=oc hb s1 s4;have rm:=hx.len;have tk:=hb.len;exact tr true Tryz.call4 Tryz.func4 (chain [.c wE,.c (po:gU 10 [(iM s)] _),.c (pt:gU 11 [(ig x)] _),.c (pv:gU 11 [(ig b)] _),.c (pq:gU 12 [(gY d)] _),tF 34 (200<(p:Int)) ae,.c (by rw[<-hh];exact u9 s x d b p h hx hd h0 hb il ic:gU 23 [(iM s),(ig x),(gY d),(ig b),(iP p)] (bP false)),.c (lQ:gU 14 [(iM s),(ig x),(gY d),(iP p)] _),.c (iN:gU 15 [(iM s),(ig b)] _),.c (xr s x d b p h hx hd h0 hb il ic),tB 65 (by rw[hi];rfl:(decide (0<((kT s x d b p).length:Int)))=false),tB 76 (rfl:(!(false==false))=false),.c (pr:gU 16 [(iM s)] _),.c (by rw[<-hh];exact Is s x d b p h hx hd h0 hb il ic hr lQ iN:gU 25 [(iM s),(ig x),(gY d),(ig b),(iP p)] (bP false))]<|.nil) ah 
theorem aeG(s:lj)(x:List Iv)(d:Dy)(b:List Iv)(p:Nat)(h:mz s)(hx:ks s.iz x)(hd:d.ia)(h0:0<d.iJ)(hb:ks s.iz b)(il:8<=p)(ic:p<=512)(p200:p<=200)(po:gU 10 [iM s] (bP true))(pt:gU 11 [ig x] (bP true))(pv:gU 11 [ig b] (bP true))(pq:gU 12 [gY d] (bP false))(lQ:gU 14 [iM s,ig x,gY d,iP (p:Int)] (bP true))(iN:gU 15 [iM s,ig b] (bP true))(pr:gU 16 [iM s] (bP true))(hr:rF s.tape)(hh:qF s x d b p=false)(hi:(kT s x d b p)≠[])(k2:mU x b=false):gU 4 [(iM s),(ig x),(gY d),(ig b),(iP p)] (bP true):=by
 have s1:=h.s1;have s4:=h.s4;obtain⟨x1,x4,xo⟩:=oc hx s1 s4;obtain⟨b1,b4,bo⟩:=oc hb s1 s4;have rm:=hx.len;have tk:=hb.len;have pJ:=Ad hx (show 1<=p by omega) (show p<=4096 by omega) hi;obtain⟨i1,i4,io⟩:=oc pJ s1 s4;have Bg:=pJ.len;exact tr true Tryz.call4 Tryz.func4 (chain [.c wE,.c (po:gU 10 [(iM s)] _),.c (pt:gU 11 [(ig x)] _),.c (pv:gU 11 [(ig b)] _),.c (pq:gU 12 [(gY d)] _),tF 34 (200<(p:Int)) ae,.c (by rw[<-hh];exact u9 s x d b p h hx hd h0 hb il ic:gU 23 [(iM s),(ig x),(gY d),(ig b),(iP p)] (bP false)),.c (lQ:gU 14 [(iM s),(ig x),(gY d),(iP p)] _),.c (iN:gU 15 [(iM s),(ig b)] _),.c (xr s x d b p h hx hd h0 hb il ic),tT 65 (0<((kT s x d b p).length:Int)) ae,.c (uN x b ae ae ae af af),tB 69 (k2),tB 76 (rfl:(!(false==false))=false),.c (pr:gU 16 [(iM s)] _),.c (by rw[<-hh];exact Is s x d b p h hx hd h0 hb il ic hr lQ iN:gU 25 [(iM s),(ig x),(gY d),(ig b),(iP p)] (bP false))]<|.nil) ah 
theorem aeI(s:lj)(x:List Iv)(d:Dy)(b:List Iv)(p:Nat)(h:mz s)(hx:ks s.iz x)(hd:d.ia)(h0:0<d.iJ)(hb:ks s.iz b)(il:8<=p)(ic:p<=512)(p200:p<=200)(po:gU 10 [iM s] (bP true))(pt:gU 11 [ig x] (bP true))(pv:gU 11 [ig b] (bP true))(pq:gU 12 [gY d] (bP false))(lQ:gU 14 [iM s,ig x,gY d,iP (p:Int)] (bP true))(iN:gU 15 [iM s,ig b] (bP true))(pr:gU 16 [iM s] (bP true))(hr:rF s.tape)(hh:qF s x d b p=false)(hi:(kT s x d b p)≠[])(k2:mU x b=true)(k3:mU (kT s x d b p) b=false):gU 4 [(iM s),(ig x),(gY d),(ig b),(iP p)] (bP true):=by
 have s1:=h.s1;have s4:=h.s4;obtain⟨x1,x4,xo⟩:=oc hx s1 s4;obtain⟨b1,b4,bo⟩:=oc hb s1 s4;have rm:=hx.len;have tk:=hb.len;have pJ:=Ad hx (show 1<=p by omega) (show p<=4096 by omega) hi;obtain⟨i1,i4,io⟩:=oc pJ s1 s4;have Bg:=pJ.len;exact tr true Tryz.call4 Tryz.func4 (chain [.c wE,.c (po:gU 10 [(iM s)] _),.c (pt:gU 11 [(ig x)] _),.c (pv:gU 11 [(ig b)] _),.c (pq:gU 12 [(gY d)] _),tF 34 (200<(p:Int)) ae,.c (by rw[<-hh];exact u9 s x d b p h hx hd h0 hb il ic:gU 23 [(iM s),(ig x),(gY d),(ig b),(iP p)] (bP false)),.c (lQ:gU 14 [(iM s),(ig x),(gY d),(iP p)] _),.c (iN:gU 15 [(iM s),(ig b)] _),.c (xr s x d b p h hx hd h0 hb il ic),tT 65 (0<((kT s x d b p).length:Int)) ae,.c (uN x b ae ae ae af af),tB 69 (k2),.c (uN (kT s x d b p) b ae ae ae af af),tB 74 (k3),tB 76 (rfl:(!(false==false))=false),.c (pr:gU 16 [(iM s)] _),.c (by rw[<-hh];exact Is s x d b p h hx hd h0 hb il ic hr lQ iN:gU 25 [(iM s),(ig x),(gY d),(ig b),(iP p)] (bP false))]<|.nil) ah 
theorem aeD(s:lj)(x:List Iv)(d:Dy)(b:List Iv)(p:Nat)(h:mz s)(hx:ks s.iz x)(hd:d.ia)(h0:0<d.iJ)(hb:ks s.iz b)(il:8<=p)(ic:p<=512)(p200:p<=200)(po:gU 10 [iM s] (bP true))(pt:gU 11 [ig x] (bP true))(pv:gU 11 [ig b] (bP true))(pq:gU 12 [gY d] (bP false))(lQ:gU 14 [iM s,ig x,gY d,iP (p:Int)] (bP true))(iN:gU 15 [iM s,ig b] (bP true))(pr:gU 16 [iM s] (bP false))(hh:qF s x d b p=false)(hi:(kT s x d b p)=[]):gU 4 [(iM s),(ig x),(gY d),(ig b),(iP p)] (bP true):=by
 have s1:=h.s1;have s4:=h.s4;obtain⟨x1,x4,xo⟩:=oc hx s1 s4;obtain⟨b1,b4,bo⟩:=oc hb s1 s4;have rm:=hx.len;have tk:=hb.len;exact tr true Tryz.call4 Tryz.func4 (chain [.c wE,.c (po:gU 10 [(iM s)] _),.c (pt:gU 11 [(ig x)] _),.c (pv:gU 11 [(ig b)] _),.c (pq:gU 12 [(gY d)] _),tF 34 (200<(p:Int)) ae,.c (by rw[<-hh];exact u9 s x d b p h hx hd h0 hb il ic:gU 23 [(iM s),(ig x),(gY d),(ig b),(iP p)] (bP false)),.c (lQ:gU 14 [(iM s),(ig x),(gY d),(iP p)] _),.c (iN:gU 15 [(iM s),(ig b)] _),.c (xr s x d b p h hx hd h0 hb il ic),tB 65 (by rw[hi];rfl:(decide (0<((kT s x d b p).length:Int)))=false),tB 76 (rfl:(!(false==false))=false),.c (pr:gU 16 [(iM s)] _)]<|.nil) ah 
theorem aeF(s:lj)(x:List Iv)(d:Dy)(b:List Iv)(p:Nat)(h:mz s)(hx:ks s.iz x)(hd:d.ia)(h0:0<d.iJ)(hb:ks s.iz b)(il:8<=p)(ic:p<=512)(p200:p<=200)(po:gU 10 [iM s] (bP true))(pt:gU 11 [ig x] (bP true))(pv:gU 11 [ig b] (bP true))(pq:gU 12 [gY d] (bP false))(lQ:gU 14 [iM s,ig x,gY d,iP (p:Int)] (bP true))(iN:gU 15 [iM s,ig b] (bP true))(pr:gU 16 [iM s] (bP false))(hh:qF s x d b p=false)(hi:(kT s x d b p)≠[])(k2:mU x b=false):gU 4 [(iM s),(ig x),(gY d),(ig b),(iP p)] (bP true):=by
 have s1:=h.s1;have s4:=h.s4;obtain⟨x1,x4,xo⟩:=oc hx s1 s4;obtain⟨b1,b4,bo⟩:=oc hb s1 s4;have rm:=hx.len;have tk:=hb.len;have pJ:=Ad hx (show 1<=p by omega) (show p<=4096 by omega) hi;obtain⟨i1,i4,io⟩:=oc pJ s1 s4;have Bg:=pJ.len;exact tr true Tryz.call4 Tryz.func4 (chain [.c wE,.c (po:gU 10 [(iM s)] _),.c (pt:gU 11 [(ig x)] _),.c (pv:gU 11 [(ig b)] _),.c (pq:gU 12 [(gY d)] _),tF 34 (200<(p:Int)) ae,.c (by rw[<-hh];exact u9 s x d b p h hx hd h0 hb il ic:gU 23 [(iM s),(ig x),(gY d),(ig b),(iP p)] (bP false)),.c (lQ:gU 14 [(iM s),(ig x),(gY d),(iP p)] _),.c (iN:gU 15 [(iM s),(ig b)] _),.c (xr s x d b p h hx hd h0 hb il ic),tT 65 (0<((kT s x d b p).length:Int)) ae,.c (uN x b ae ae ae af af),tB 69 (k2),tB 76 (rfl:(!(false==false))=false),.c (pr:gU 16 [(iM s)] _)]<|.nil) ah 
theorem aeH(s:lj)(x:List Iv)(d:Dy)(b:List Iv)(p:Nat)(h:mz s)(hx:ks s.iz x)(hd:d.ia)(h0:0<d.iJ)(hb:ks s.iz b)(il:8<=p)(ic:p<=512)(p200:p<=200)(po:gU 10 [iM s] (bP true))(pt:gU 11 [ig x] (bP true))(pv:gU 11 [ig b] (bP true))(pq:gU 12 [gY d] (bP false))(lQ:gU 14 [iM s,ig x,gY d,iP (p:Int)] (bP true))(iN:gU 15 [iM s,ig b] (bP true))(pr:gU 16 [iM s] (bP false))(hh:qF s x d b p=false)(hi:(kT s x d b p)≠[])(k2:mU x b=true)(k3:mU (kT s x d b p) b=false):gU 4 [(iM s),(ig x),(gY d),(ig b),(iP p)] (bP true):=by
 have s1:=h.s1;have s4:=h.s4;obtain⟨x1,x4,xo⟩:=oc hx s1 s4;obtain⟨b1,b4,bo⟩:=oc hb s1 s4;have rm:=hx.len;have tk:=hb.len;have pJ:=Ad hx (show 1<=p by omega) (show p<=4096 by omega) hi;obtain⟨i1,i4,io⟩:=oc pJ s1 s4;have Bg:=pJ.len;exact tr true Tryz.call4 Tryz.func4 (chain [.c wE,.c (po:gU 10 [(iM s)] _),.c (pt:gU 11 [(ig x)] _),.c (pv:gU 11 [(ig b)] _),.c (pq:gU 12 [(gY d)] _),tF 34 (200<(p:Int)) ae,.c (by rw[<-hh];exact u9 s x d b p h hx hd h0 hb il ic:gU 23 [(iM s),(ig x),(gY d),(ig b),(iP p)] (bP false)),.c (lQ:gU 14 [(iM s),(ig x),(gY d),(iP p)] _),.c (iN:gU 15 [(iM s),(ig b)] _),.c (xr s x d b p h hx hd h0 hb il ic),tT 65 (0<((kT s x d b p).length:Int)) ae,.c (uN x b ae ae ae af af),tB 69 (k2),.c (uN (kT s x d b p) b ae ae ae af af),tB 74 (k3),tB 76 (rfl:(!(false==false))=false),.c (pr:gU 16 [(iM s)] _)]<|.nil) ah 
theorem aeO(s:lj)(x:List Iv)(d:Dy)(b:List Iv)(p:Nat)(h:mz s)(hx:ks s.iz x)(hd:d.ia)(h0:0<d.iJ)(hb:ks s.iz b)(il:8<=p)(ic:p<=512)(p200:p<=200)(po:gU 10 [iM s] (bP true))(pt:gU 11 [ig x] (bP true))(pv:gU 11 [ig b] (bP true))(pq:gU 12 [gY d] (bP false))(lQ:gU 14 [iM s,ig x,gY d,iP (p:Int)] (bP true))(iN:gU 15 [iM s,ig b] (bP true))(pr:gU 16 [iM s] (bP true))(hr:rF s.tape):gU 4 [(iM s),(ig x),(gY d),(ig b),(iP p)] (bP true):=by
 cases hh:qF s x d b p with
 |true=>exact aeM s x d b p h hx hd h0 hb il ic p200 po pt pv pq lQ iN pr hr hh
 |false=>
  by_cases hi:(kT s x d b p)=[]
  .exact aeE s x d b p h hx hd h0 hb il ic p200 po pt pv pq lQ iN pr hr hh hi
  .cases k2:mU x b with
   |false=>exact aeG s x d b p h hx hd h0 hb il ic p200 po pt pv pq lQ iN pr hr hh hi k2
   |true=>
    cases k3:mU (kT s x d b p) b with
    |false=>exact aeI s x d b p h hx hd h0 hb il ic p200 po pt pv pq lQ iN pr hr hh hi k2 k3
    |true=>rw[It.2 ⟨hi,k2,k3⟩]at hh;cases hh
theorem aeN(s:lj)(x:List Iv)(d:Dy)(b:List Iv)(p:Nat)(h:mz s)(hx:ks s.iz x)(hd:d.ia)(h0:0<d.iJ)(hb:ks s.iz b)(il:8<=p)(ic:p<=512)(p200:p<=200)(po:gU 10 [iM s] (bP true))(pt:gU 11 [ig x] (bP true))(pv:gU 11 [ig b] (bP true))(pq:gU 12 [gY d] (bP false))(lQ:gU 14 [iM s,ig x,gY d,iP (p:Int)] (bP true))(iN:gU 15 [iM s,ig b] (bP true))(pr:gU 16 [iM s] (bP false)):gU 4 [(iM s),(ig x),(gY d),(ig b),(iP p)] (bP true):=by
 cases hh:qF s x d b p with
 |true=>exact aeL s x d b p h hx hd h0 hb il ic p200 po pt pv pq lQ iN pr hh
 |false=>
  by_cases hi:(kT s x d b p)=[]
  .exact aeD s x d b p h hx hd h0 hb il ic p200 po pt pv pq lQ iN pr hh hi
  .cases k2:mU x b with
   |false=>exact aeF s x d b p h hx hd h0 hb il ic p200 po pt pv pq lQ iN pr hh hi k2
   |true=>
    cases k3:mU (kT s x d b p) b with
    |false=>exact aeH s x d b p h hx hd h0 hb il ic p200 po pt pv pq lQ iN pr hh hi k2 k3
    |true=>rw[It.2 ⟨hi,k2,k3⟩]at hh;cases hh
theorem afY(s:jr)(x:List RI)(d:RD)(b:List RI)(p:Int)(g:s.jg)(gx0:∀ y,y ∈ x->y.jg)(gd:d.jg)(gb0:∀ y,y ∈ b->y.jg):gU 4 [kZ s,jW x,mr d,jW b,iP p] (bP true):=by
 have gx:=RZ gx0;have gb:=RZ gb0;by_cases hE:(¬rK s=true\/¬pA x=true\/¬pA b=true\/py d=true\/200<p)
 .exact aeC s x d b p g gx gd gb hE
 have h1:rK s=true:=bE fun q=>hE (.inl q)
 have h2:pA x=true:=bE fun q=>hE (.inr (.inl q))
 have w8:pA b=true:=bE fun q=>hE (.inr (.inr (.inl q)))
 have h3:py d=false:=aM fun q=>hE (.inr (.inr (.inr (.inl q))))
 have h4:p<=200:=Int.not_lt.1 fun q=>hE (.inr (.inr (.inr (.inr q))))
 cases hf:mv s x d p with
 |false=>exact aeJ s x d b p g gx gd gb h1 h2 w8 h3 h4 hf
 |true=>
  cases vZ:pW s.iz b with
  |false=>exact aeK s x d b p g gx gd gb h1 h2 w8 h3 h4 hf vZ
  |true=>
   have sm:=Le h1;have ln:x.length<=1000:=by have:=B0 h2;omega
   have nE:b.length<=1000:=by have:=B0 w8;omega
   obtain⟨o1,o2,o3,o4,p1,p2,e1,e2,e3⟩:=RH g gx gd hf;obtain⟨o5,e4⟩:=PO gb vZ;have hs:mD s=true:=by unfold mv at hf;simp only[bA]at hf;exact hf.1.1.1.1
   have LN:tK s b=true:=by unfold tK;rw[hs,vZ];rfl
   have c1:=IN s;have c2:=yI x;have c2b:=yI b;have c3:=C6 d;have c4:=afW s g sm;have c5:=NJ s g sm x gx ln d gd p;have c6:=Jf s g sm b gb nE;rw[h1,e1]at c1;rw[h2,e2]at c2;rw[w8,e4]at c2b;rw[h3,e3]at c3;rw[e1]at c4;rw[hf,e1,e2,e3]at c5;rw[LN,e1,e4]at c6;rw[e1,e2,e3,e4];obtain⟨q,rfl⟩:=dJ (show 0<=p by omega);cases hr:Dq s with
   |true=>rw[hr]at c4;exact aeO s.v (x.map RI.iv) d.dy (b.map RI.iv) q o1 o2 o3 o4 o5 ae ae ae c1 c2 c2b c3 c5 c6 c4 (aiK hr o1)
   |false=>rw[hr]at c4;exact aeN s.v (x.map RI.iv) d.dy (b.map RI.iv) q o1 o2 o3 o4 o5 ae ae ae c1 c2 c2b c3 c5 c6 c4
open Go.ChangeShapes Go.WideShapes Go.ChangeAt Go.RowKit Fp Pu
theorem aiU{W:World}{x:RD}{cs:Array Value}(h:OS W x cs.toList):iG mW mW W (mr x) (.agg cs):=by
 obtain⟨_,hl,h⟩:=h;have:=iG.agg (bs:=mW) (br:=mW) (w:=W) (NO x) cs.toList (by rw[hl];rfl) (fun i p v h1 h2=>by
  have hi:i<3:=by have:=(bU.1 h2).1;omega
  obtain⟨v',h3,h4⟩:=h i hi;rw[h2]at h3;cases h3;rw[aW,h1]at h4;exact h4)
 unfold mr;exact this
open Go.ChangeShapes Go.WideShapes Go.ChangeAt Go.RowKit Fp Pu
def J1(W:World)(o:na)(cs:List Value):Prop:=o.jg/\cs.length=6/\∀ j,j<6->∃ v,cs[j]? = some v/\iG mW mW W ((yW o).getD j .any) v
theorem agf{α:Type}{l:List α}(h:l.length=2):∃ a b,l=[a,b]:=by
 rcases l with _|⟨a,_|⟨b,_|⟨c,l⟩⟩⟩<;>simp at h
 exact⟨a,b,rfl⟩
theorem agh{α:Type}{l:List α}(h:l.length=5):∃ a b c d e,l=[a,b,c,d,e]:=by
 rcases l with _|⟨a,_|⟨b,_|⟨c,_|⟨d,_|⟨e,_|⟨f,l⟩⟩⟩⟩⟩⟩<;>simp at h
 exact⟨a,b,c,d,e,rfl⟩
theorem agi{α:Type}{l:List α}(h:l.length=6):∃ a b c d e f,l=[a,b,c,d,e,f]:=by
 rcases l with _|⟨a,_|⟨b,_|⟨c,_|⟨d,_|⟨e,_|⟨f,_|⟨g,l⟩⟩⟩⟩⟩⟩⟩<;>simp at h
 exact⟨a,b,c,d,e,f,rfl⟩
section
variable {H:Type} {enc:TypeId×Value->H} {W:World} {fuel:Nat} {cs:List Value} {x:DataW H×List MemPlace}
theorem Aq(h:DataW.trod enc Tryz.prog W 0 (fun _=>true) true fuel 3 cs=some x):∃ z,cs=[.int .i64 z]/\ku .i64 z:=by
 obtain⟨z,hz,_,hw⟩:=DataW.trod_int Tryz.underlying3 h;exact⟨z,hz,Yp hw⟩
theorem ahm(h:DataW.trod enc Tryz.prog W 0 (fun _=>true) true fuel 97 cs=some x):∃ n d,cs=[.int .i64 n,.int .i64 d]/\ku .i64 n/\ku .i64 d:=by
 obtain⟨xs,n,rfl,rfl,hl,ln,hf⟩:=DataW.trod_struct Tryz.underlying97 h;have hC:Tryz.prog.cellsOf 97=2:= ah ;have hI:Tryz.prog.cellsOf 3=1:= ah ;rw[hC]at hl;obtain⟨c0,c1,rfl⟩:=agf hl;have h0:=hf 0 _ rfl;have h1:=hf 1 _ rfl;simp only[eH,eI,dR]at h0 h1;simp only[hI,eJ,eK,ej,eN]at h0 h1;rw[bd (by rw[ln];decide)]at h0 h1;obtain⟨z0,e0,w0⟩:=Aq h0;obtain⟨z1,e1,w1⟩:=Aq h1;simp at e0 e1;subst e0 e1;exact⟨z0,z1,rfl,w0,w1⟩
theorem aho(h:DataW.trod enc Tryz.prog W 0 (fun _=>true) true fuel 99 cs=some x):∃ o,J1 W o cs:=by
 obtain⟨xs,n,rfl,rfl,hl,ln,hf⟩:=DataW.trod_struct Tryz.underlying99 h;have hC:Tryz.prog.cellsOf 99=6:= ah ;have hR:Tryz.prog.cellsOf 97=2:= ah ;have hI:Tryz.prog.cellsOf 3=1:= ah ;rw[hC]at hl;obtain⟨c0,c1,c2,c3,c4,c5,rfl⟩:=agi hl;have h0:=hf 0 _ rfl;have h1:=hf 1 _ rfl;have h2:=hf 2 _ rfl;have h3:=hf 3 _ rfl;have h4:=hf 4 _ rfl;simp only[eH,eI,dR]at h0 h1 h2 h3 h4;simp only[hI,hR,eJ,eK,ej,eN]at h0 h1 h2 h3 h4;rw[bd (by rw[ln];decide)]at h0 h1 h2 h3 h4;obtain⟨z0,e0,w0⟩:=Aq h0;obtain⟨z1,e1,w1⟩:=Aq h1;obtain⟨z2,e2,w2⟩:=Aq h2;obtain⟨z3,e3,w3⟩:=Aq h3;obtain⟨z4,z5,e4,w4,w5⟩:=ahm h4;simp at e0 e1 e2 e3 e4;obtain⟨e4,e5⟩:=e4;subst e0 e1 e2 e3 e4 e5;refine⟨⟨z0,z1,z2,z3,z4,z5⟩,⟨w0,w1,w2,w3,w4,w5⟩,rfl,fun j hj=>?_⟩;rcases j with _|_|_|_|_|_|j
 all_goals first|exact⟨_,rfl,.v _⟩|omega
theorem ajD(o:na)(j:Nat)(hj:j<6):((yW o).getD j .any).one=true/\(((yW o).getD j .any).nk=true)/\((yW o).getD j .any).nr 2=true:=by
 rcases j with _|_|_|_|_|_|j
 all_goals first|exact⟨rfl,rfl,rfl⟩|omega
theorem ahp(h:DataW.trod enc Tryz.prog W 0 (fun _=>true) true fuel 22 cs=some x):
  ∃ l v,cs=[v]/\(∀ y,y ∈ l->y.jg)/\iG mW mW W (jJ l) v:=by
 have hC:Tryz.prog.cellsOf 99=6:= ah ;rcases Deep.open_slice Tryz.underlying22 h with⟨rfl,_⟩|⟨a,len,cap,m,n,D,Pl,rfl,hb,hl,hm,se,rfl,hx⟩
 .exact ⟨[],_,rfl,(fun y hy=>by cases hy),.sl true 0 6 _ none 0 (fun _ _=>.bool false) (aU _) ag (fun _=>rfl) (fun i j hi=>absurd hi (bj i)) (fun i j hi=>absurd hi (bj i)) (fun i j hi=>absurd hi (bj i)) (fun i j hi=>absurd hi (bj i))⟩
 .simp only[bk]at se
  subst se;have ex:∀ i,∃ y:na,i<len->∃ cs',W.cells? 0 (a.add (i*6)) 6=some cs'/\J1 W y cs':=by
   intro i;by_cases hi:i<len
   .obtain ⟨cs',h1,h2⟩:=hx i ae 
    rw[hC]at h1;obtain⟨y,hy⟩:=aho h2;exact⟨y,fun _=>⟨cs',h1,hy⟩⟩
   .exact ⟨iW,fun h=>absurd h hi⟩
  let X:Nat->na:=fun i=>Classical.choose (ex i)
  have hX:∀ i,i<len->∃ cs',W.cells? 0 (a.add (i*6)) 6=some cs'/\J1 W (X i) cs':=fun i=>cM (ex i)
  have hlen:((List.range len).map X).length=len:= aj ;refine⟨(List.range len).map X,_,rfl,?_,?_⟩
  .intro y hy
   obtain⟨i,hi,rfl⟩:=cY.1 hy;obtain⟨cs',_,h2⟩:=hX i (bJ.1 hi);exact h2.1
  .have Et:∀ i,i<len->((List.range len).map X).getD i iW=X i:=by
    intro i hi;rw[aW,cj,amO hi];rfl
   have:=NU (W:=W) (a:=a) (len:=len) (cap:=m) (nl:=true) (fun i j=>(yW (((List.range len).map X).getD i iW)).getD j .any) hl hm (show 0<6 by decide)
    (fun i j _ hj=>let⟨h1,h2,h3⟩:=ajD (((List.range len).map X).getD i iW) j hj;⟨h1,fun _=>h2,h3⟩)
    (fun i hi=>by
     obtain⟨cs',h1,h2,_,h3⟩:=hX i hi;exact⟨cs',h1,fun j hj=>by rw[Et i hi];exact h3 j hj⟩)
   unfold jJ;rw[hlen];exact this
theorem ajB:iW.jg:=by constructor<;>(show ku .i64 0;unfold ku;decide)
theorem Ll{α:Type}{P:α->Prop}{l:List α}{d:α}(h:∀ y,y ∈ l->P y)(hd:P d)(i:Nat):P (l.getD i d):=by
 by_cases hi:i<l.length
 .rw [aW,bd hi];exact h _ (cw hi)
 .rw [aW,bV ae];exact hd
def OT(W:World)(s:jr)(cs:List Value):Prop:=s.jg/\cs.length=5/\∀ j,j<5->∃ v,cs[j]? = some v/\iG mW mW W ((N8 s).getD j .any) v
theorem ahr(h:DataW.trod enc Tryz.prog W 0 (fun _=>true) true fuel 25 cs=some x):
 ∃ (n:Int) (gW:List na) (ij:List Int) (v w:Value),cs=[.int .i64 n,v,w]/\ku .i64 n/\(∀ y,y ∈ gW->y.jg)/\(∀ z,z ∈ ij->ku .i64 z)/\iG mW mW W (jJ gW) v/\iG mW mW W (jN ij) w:=by
 obtain⟨xs,n,rfl,rfl,hl,ln,hf⟩:=DataW.trod_struct Tryz.underlying25 h;have hC:Tryz.prog.cellsOf 25=3:= ah ;have hI:Tryz.prog.cellsOf 3=1:= ah ;have hO:Tryz.prog.cellsOf 22=1:= ah ;have hU:Tryz.prog.cellsOf 23=1:= ah ;rw[hC]at hl;obtain⟨c0,c1,c2,rfl⟩:=Uo hl;have h0:=hf 0 _ rfl;have h1:=hf 1 _ rfl;have h2:=hf 2 _ rfl;simp only[eH,eI,dR]at h0 h1 h2;simp only[hI,hO,hU,eJ,eK,ej,eN]at h0 h1 h2;rw[bd (by rw[ln];decide)]at h0 h1 h2;obtain⟨z0,e0,w0⟩:=Aq h0;obtain⟨gW,v,e1,g1,r1⟩:=ahp h1;obtain⟨ij,w,e2,g2,r2⟩:=ahk (k:=.i64) (fun _=>rfl) Tryz.underlying23 Tryz.underlying3 hI h2;simp at e0 e1 e2;subst e0 e1 e2;exact⟨z0,gW,ij,_,_,rfl,w0,g1,g2,r1,r2⟩
theorem ahq(h:DataW.trod enc Tryz.prog W 0 (fun _=>true) true fuel 28 cs=some x)(iD:∀ p ∈ x.2,p.block<W.heap.size):∃ s,OT W s cs:=by
 obtain⟨xs,n,rfl,rfl,hl,ln,hf⟩:=DataW.trod_struct Tryz.underlying28 h;have hC:Tryz.prog.cellsOf 28=5:= ah ;have hT:Tryz.prog.cellsOf 25=3:= ah ;have hI:Tryz.prog.cellsOf 3=1:= ah ;have hP:Tryz.prog.cellsOf 26=1:= ah ;rw[hC]at hl;obtain⟨c0,c1,c2,c3,c4,rfl⟩:=agh hl;have h0:=hf 0 _ rfl;have h1:=hf 1 _ rfl;have h2:=hf 2 _ rfl;simp only[eH,eI,dR]at h0 h1 h2;simp only[hT,hI,hP,eJ,eK,ej,eN]at h0 h1 h2;rw[bd (by rw[ln];decide)]at h0 h1 h2;obtain⟨z0,gW,ij,v,w,e0,w0,g1,g2,r1,r2⟩:=ahr h0;obtain⟨z1,e1,w1⟩:=Aq h1;obtain⟨ps,u,e2,g3,r3⟩:=Nr h2 (fun p hp=>iD p (eO.2 ⟨_,cw _,hp⟩));simp at e0 e1 e2;obtain⟨e0,e0b,e0c⟩:=e0;subst e0 e0b e0c e1 e2;refine⟨⟨z0,gW,ij,z1,ps⟩,⟨w0,Ll g1 ajB,Ll g2 (by unfold ku;decide),w1,Ll g3 WZ⟩,rfl,fun j hj=>?_⟩;rcases j with _|_|_|_|_|j
 .exact ⟨_,rfl,.v _⟩
 .exact ⟨_,rfl,r1⟩
 .exact ⟨_,rfl,r2⟩
 .exact ⟨_,rfl,.v _⟩
 .exact ⟨_,rfl,r3⟩
 .omega
end
theorem ak4{W:World}{x:jr}{cs:Array Value}(h:OT W x cs.toList):iG mW mW W (kZ x) (.agg cs):=by
 obtain⟨_,hl,h⟩:=h;have:=iG.agg (bs:=mW) (br:=mW) (w:=W) (N8 x) cs.toList (by rw[hl];rfl) (fun i p v h1 h2=>by
  have hi:i<5:=by have:=(bU.1 h2).1;omega
  obtain⟨v',h3,h4⟩:=h i hi;rw[h2]at h3;cases h3;rw[aW,h1]at h4;exact h4)
 unfold kZ;exact this
open Go.ChangeShapes Go.WideShapes Go.ChangeAt Go.RowKit Fp Pu
def acq:Value:=.agg #[.bool false,.slice none 0 0,.int .i64 0]
def acr{H:Type}:DataW H:=.agg [.lit (.bool false),.nil,.lit (.int .i64 0)]
def acw:Value:=.agg #[.int .i64 0,.slice none 0 0,.slice none 0 0,.int .i64 0,.slice none 0 0]
def acx{H:Type}:DataW H:=.agg [.agg [.lit (.int .i64 0),.nil,.nil],.lit (.int .i64 0),.nil]
def Bk:Array Value:=#[acw,.slice none 0 0,acq,.slice none 0 0,.int .i64 0]
set_option maxRecDepth 100000 in
theorem aeP(H:Type)(enc:TypeId×Value->H)(W:World)(base:Nat)(args:Array Value)(ds gs:List (DataW H))(before:List MemPlace)
 (kY:∀ (j:Nat) t v,Tryz.f4.params[j]? = some t->args[j]? = some v->Value.okWide Tryz.prog W .any base t v)
 (hW:DataW.Whole enc Tryz.prog Tryz.f4.params.toList Rows.picardHoldsSpec.vars false W args.toList ds gs before) (hL:laidMetH Tryz.prog Rows.picardHoldsRow.laid W):
 Calls Tryz.prog 4 args W fun e W'=>∃ v,e = .returned v/\Rows.picardHoldsSpec.post enc Tryz.prog Tryz.f4 false true false false W args v W':=by
 have Eo:=hW;obtain⟨p,q,tN,hV,rfl,hfz,hnd⟩:=hW;have hA:DataW.TrodAll enc Tryz.prog W 0 (fun _=>true) true Tryz.f4.params.toList args.toList ds p:=tN;rw[Tryz.params4]at hA kY;obtain⟨v0,vs0,d0,ds0,p0,q0,CY,rfl,rfl,h0,tN⟩:=trodAll_cons hA;obtain⟨v1,vs1,d1,ds1,p1,q1,rfl,rfl,rfl,h1,zO⟩:=trodAll_cons tN;obtain⟨v2,vs2,d2,ds2,p2,q2,rfl,rfl,rfl,h2,hA2⟩:=trodAll_cons zO;obtain⟨v3,vs3,d3,ds3,p3,q3,rfl,rfl,rfl,h3,hA3⟩:=trodAll_cons hA2;obtain⟨v4,vs4,d4,ds4,p4,q4,rfl,rfl,rfl,h4,hA4⟩:=trodAll_cons hA3;obtain⟨rfl,rfl,rfl⟩:=trodAll_nil hA4;obtain rfl:args = #[v0,v1,v2,v3,v4]:=by cases args;simp_all
 obtain⟨rfl,rfl⟩:=trodVars_none hV;obtain⟨cs0,rfl,amt⟩:=okWide_struct Tryz.underlying28 (kY 0 28 v0 rfl rfl);obtain⟨a1,len1,cap1,rfl⟩:=okWide_slice Tryz.underlying26 (kY 1 26 v1 rfl rfl);obtain⟨cs2,rfl,Tj⟩:=okWide_struct Tryz.underlying31 (kY 2 31 v2 rfl rfl);obtain⟨a3,len3,cap3,rfl⟩:=okWide_slice Tryz.underlying26 (kY 3 26 v3 rfl rfl);obtain⟨x4,rfl,rfl,rfl,b4⟩:=open_int Tryz.underlying3 (kY 4 3 v4 rfl rfl) h4;have h0k:=h0;obtain⟨fuel0,hf0⟩:=h0;have h1k:=h1;obtain⟨fuel1,LV⟩:=h1;have h2k:=h2;obtain⟨fuel2,LW⟩:=h2;have h3k:=h3;obtain⟨fuel3,hf3⟩:=h3;clear tN;have CO:∀ x ∈ p0,x.block<W.heap.size:=fun x hx=>Eo.lt x (by simp[hx])
 have Bh:∀ x ∈ p1,x.block<W.heap.size:=fun x hx=>Eo.lt x (by simp[hx])
 have zV:∀ x ∈ p2,x.block<W.heap.size:=fun x hx=>Eo.lt x (by simp[hx])
 have SZ:∀ x ∈ p3,x.block<W.heap.size:=fun x hx=>Eo.lt x (by simp[hx])
 obtain⟨x0,g0⟩:=ahq hf0 CO;obtain⟨x1,w1,xn,g1,r1⟩:=Nr LV Bh;obtain rfl:Value.slice a1 len1 cap1=w1:=by
  have:(Value.slice a1 len1 cap1).cells.toList=[Value.slice a1 len1 cap1]:=rfl;rw[this]at xn;simpa using xn
 obtain⟨x2,g2⟩:=Nq LW zV;obtain⟨x3,w3,Tn,g3,r3⟩:=Nr hf3 SZ;obtain rfl:Value.slice a3 len3 cap3=w3:=by
  have:(Value.slice a3 len3 cap3).cells.toList=[Value.slice a3 len3 cap3]:=rfl;rw[this]at Tn;simpa using Tn
 have lJ:=(afY x0 x1 x2 x3 x4 g0.1 g1 g2.1 g3).run W mW [.agg cs0,.slice a1 len1 cap1,.agg cs2,.slice a3 len3 cap3,.int .i64 x4] (alc rfl hL) (fun _ h=>h.elim) (.cons (ak4 (cs:=cs0) g0) (.cons r1 (.cons (aiU (cs:=cs2) g2) (.cons r3 (.cons (.v _) (.nil _ _ _))))));refine lJ.mono fun r W' ⟨v,hr,hb,rS⟩=>?_
 obtain rfl:=iG.kK rS;subst hr;refine⟨_,rfl,_,_,_,[],p0++(p1++(p2++(p3++([])))),[],Eo,?_,?_,rfl,hb.frame _,fun h=>by cases h⟩
 .exact trodAll_mk1 (shut_bool Tryz.underlying4 _)
 .exact ⟨p0,_,(Below.trod EV ah (ct ah) h0k hb CO),⟨p1,_,(Below.trod EV ah (ct ah) h1k hb Bh),⟨p2,_,(Below.trod EV ah (ct ah) h2k hb zV),⟨p3,_,(Below.trod EV ah (ct ah) h3k hb SZ),trodAll_mk1 (Below.trod EV ah (ct ah) h4 hb (fun _ h=>by cases h)),rfl⟩,rfl⟩,rfl⟩,rfl⟩
theorem aeS(os:Os):laidMet Tryz.prog Rows.picardHoldsRow.laid ((MN os Bk).forCall (fun _ _=>0) ⟨#[],Bk,[]⟩).memory:=
 laidMet_of_run' 8 ah ah 
theorem aeV(os:Os){H:Type}(enc:TypeId×Value->H):∃ places,DataW.whole enc Tryz.prog ((MN os Bk).forCall (fun _ _=>0) ⟨#[],Bk,[]⟩).memory Tryz.f4.params.toList Rows.picardHoldsSpec.vars false Bk.toList 8=some ([acx,.nil,acr,.nil,.lit (.int .i64 0)],[],places):=
 ⟨[],ah⟩
set_option maxRecDepth 100000 in
theorem aeR(os:Os)(started:os.Started)(H:Type)(enc:TypeId×Value->H)(F:Stop.Interp):
  ReturnsInHanded {} Tryz.checked os 4 .any ((OpenSpec.ofChange Rows.picardHoldsSpec).preRow enc Tryz.prog Tryz.f4 Rows.picardHoldsRow.domain false Rows.picardHoldsRow.laid) (((OpenSpec.ofChange Rows.picardHoldsSpec).at F).post enc Tryz.prog Tryz.f4 false true false false):=by
 obtain⟨places,hx⟩:=aeV os enc;refine returnsInHanded_of_row (C:=Tryz.checked) (s:=OpenSpec.ofChange Rows.picardHoldsSpec) own started ah Tryz.func4
  (witness_row_at (enc:=enc) (C:=Tryz.checked) false (MN os Bk) Bk rfl ah ah ah 
   (OpenSpec.preRow_of_cond 8 hx ah (fun k hk=>by cases hk) ah (aeS os))) ?_
 intro W base args ds gs before kY hW _ _ _ hL _ _;exact aeP H enc W base args ds gs before kY hW hL
set_option maxHeartbeats 100000000 in
theorem aeQ:joinedFacts Tryz.prog 4 Tryz.f4 (OpenSpec.ofChange Rows.picardHoldsSpec).bare Rows.picardHoldsRow=true:=by
 unfold joinedFacts;simp only[bA]
 and_intros<;>decide +kernel
theorem aeW:Rows.PicardHoldsSaid:=
 OpenClaim.holds_of_cond 4 Tryz.f4 rfl rfl rfl rfl rfl rfl rfl ⟨rfl,rfl,rfl,rfl,rfl⟩ rfl rfl rfl rfl rfl ah Tryz.func4 aeQ
  (ct ah) (by unfold Func.isWrapper;first|(rw[aR ar];kernel_rfl)|(rw[aQ ar];exact⟨rfl,rfl⟩))
  (fun os started H enc _ F=>by rw[OpenClaim.pre_eq_preRow];exact aeR os started H enc F)
theorem aeU (f:FuncId) (fn:Func) (hf:Tryz.pinned.checked.prog.funcNamed "flowpipe/flowpipelaw28.PicardHolds" = some f) (hfn:Tryz.pinned.checked.prog.funcs[f]? = some fn):
 false=Tryz.pinned.checked.prog.looks []/\∀ (j:Nat) t,fn.params[j]? = some t->Tryz.pinned.checked.prog.wantsStandIn t=false:=by
 obtain rfl:f=4:=amD ((show Tryz.prog.funcNamed "flowpipe/flowpipelaw28.PicardHolds" = some 4 by kernel_rfl).symm.trans hf) |>.symm
 obtain rfl:fn=Tryz.f4:=(amD (Tryz.func4.symm.trans hfn)).symm;refine⟨ah,fun j t ht=>?_⟩;rw[Tryz.params4]at ht;have:t=28\/t=26\/t=31\/t=3:=by
  have:=dz ht;simp only[fV,cU,List.not_mem_nil,or_false]at this;rcases this with h|h|h|h|h<;>subst h<;>simp
 rcases this with rfl|rfl|rfl|rfl
 .exact (show Tryz.prog.wantsStandIn 28=false by kernel_rfl)
 .exact (show Tryz.prog.wantsStandIn 26=false by kernel_rfl)
 .exact (show Tryz.prog.wantsStandIn 31=false by kernel_rfl)
 .exact (show Tryz.prog.wantsStandIn 3=false by kernel_rfl)
theorem holds_card:Rows.PicardHoldsCardSaid:=
 Claim7.holds_tied_plain_at .later [] _ _ _ _ aeW (fun _ h=>by cases h) ah (fun _ h=>by cases h) picardHolds_row_tie rfl ⟨rfl,rfl⟩ ah rfl aeU (adU ada rfl)
end Go.Proofs.YtdgnpeddgdclhaaGreatDoor
