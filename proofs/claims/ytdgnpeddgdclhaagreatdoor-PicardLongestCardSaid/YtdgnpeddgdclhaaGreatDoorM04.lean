/- Texts: Bb Dp Mw No Nn Mk Mc Qm Qt Yp Bo Md Mf Mg Mh Mi Mj Mr Za Zd Ze Zg Zh Zi Bn Bp Zj Zl Bq Zf Zk Br Bt Bs Bv Bu Bw Bx By Xa. -/
import Derived.Test.YtdgnpeddgdclhaaGreatDoorM03
set_option linter.unusedSimpArgs false
set_option linter.unusedVariables false
set_option maxHeartbeats 4000000
namespace Go.Proofs.YtdgnpeddgdclhaaGreatDoor
open Go.RowKit Fp Pu
def AH(d:Dy)(n p:Nat)(x:Nat):PS:=⟨41,true,[(14,.e (iP (((x+1):Nat):Int))),(13,.e (iP ((aH d p false x).2))),(12,.box 12 0),(10,.box 10 0),(5,.box 5 0),(1,.e (iP n)),(2,.e (iP p)),(4,.e (.fn 92 []))],[(12,.cells 31 (aM ((aH d p false x).1))),(10,.cells 31 [(bP false),(.v (.slice none 0 0)),(iP 0)]),(5,.cells 31 (aM d))]⟩
def AI(d:Dy)(n N p:Nat)(x:Nat):PS:=⟨41,true,[(14,.e (iP (((x+1):Nat):Int))),(13,.e (iP ((aH d p false x).2))),(12,.box 12 0),(10,.box 10 0),(5,.box 5 0),(1,.e (iP n)),(2,.e (iP p)),(4,.e (.fn 92 []))],[(12,.cells 31 (aM ((aH d p false x).1))),(10,.cells 31 [(bP false),(.v (.slice none 0 0)),(iP 0)]),(5,.cells 31 (aM d))]⟩
def AJ(d:Dy)(n p:Nat)(x:Nat):PS:=⟨41,true,[(14,.e (iP (((x+1):Nat):Int))),(13,.e (iP ((aH d p true x).2))),(12,.box 12 0),(10,.box 10 0),(5,.box 5 0),(1,.e (iP n)),(2,.e (iP p)),(4,.e (.fn 93 []))],[(12,.cells 31 (aM ((aH d p true x).1))),(10,.cells 31 [(bP false),(.v (.slice none 0 0)),(iP 0)]),(5,.cells 31 (aM d))]⟩
def AK(d:Dy)(n N p:Nat)(x:Nat):PS:=⟨41,true,[(14,.e (iP (((x+1):Nat):Int))),(13,.e (iP ((aH d p true x).2))),(12,.box 12 0),(10,.box 10 0),(5,.box 5 0),(1,.e (iP n)),(2,.e (iP p)),(4,.e (.fn 93 []))],[(12,.cells 31 (aM ((aH d p true x).1))),(10,.cells 31 [(bP false),(.v (.slice none 0 0)),(iP 0)]),(5,.cells 31 (aM d))]⟩
theorem IB(a b:Dy)(ha:a.Valid)(hb:b.Valid):ae 190 [ag a,ag b] (.aq [ag (bH (az a b)),iP (cQ (az a b))]):=tV Tryz.call190 (fun A c A' c' w h k hT=>BV a b A A' c c' w h k hT ha hb) rm
theorem pX(a b:Dy)(ha:a.Valid)(hb:b.Valid):ae 156 [ag a,ag b] (.aq [ag (bH (az a (aJ b))),iP (cQ (az a (aJ b)))]):=tV Tryz.call156 (fun A c A' c' w h k hT=>KN a b A A' c c' w h k hT ha hb) rm
theorem pU(a b:Dy)(ha:a.Valid)(hb:b.Valid):ae 157 [(ag a),(ag b)] (.aq [(ag (bH (az a b))),(iP (cQ (az a b)))]):=by
 exact tr true Tryz.call157 Tryz.func157 (chain [.c (ff _ ‹_›:ae 68 [(ag a)] _),.c (ff _ ‹_›:ae 68 [(ag b)] _),.c (IB _ _ ‹_› ‹_›:ae 190 [(ag a),(ag b)] _)] <| .nil) (by kernel_rfl)
theorem Hq(s:Bool)(m:Nat)(e:Int)(hl:(af m).length<=256)(he1:-1000000<=e)(he2:e<=1000000):ae 79 [bP s,ah (af m),iP e] (ag (canon s m e)):=by
 refine⟨Tryz.call79,fun w B vs hK hB hr=>?_⟩;obtain⟨v1,vs,rfl,h1,hr⟩:=hr.cL;obtain⟨v2,vs,rfl,h2,hr⟩:=hr.cL;obtain⟨v3,vs,rfl,h3,hr⟩:=hr.cL;obtain rfl:=hr.fB;obtain rfl:=aw.bR h1;obtain rfl:=aw.bR h3;obtain⟨A,c,rfl,s1⟩:=j9 (cE m) h2;exact(oH s m e A c w s1 hl he1 he2 hK).mono fun e w' h=>rd B w e w' hB h
theorem Hr(d:Dy)(hl:(af d.m).length<=100000000)(he1:-10000000<=d.e)(he2:d.e<=10000000):ae 78 [ag d] (.aq [ag (bH d),iP (cQ d)]) :=
 kG Tryz.call78 (fun A c w h _=>sD d A c w h (by omega) (by omega) (by omega)) rm
theorem HW(k:Int)(h1:-32768<=k)(h2:k<=32768):ae 77 [(iP k)] (bP true):=by
 exact tr true Tryz.call77 Tryz.func77 (chain [tT 4 ((-32768)<=k) (by omega),tT 7 (k<=32768) (by omega)] <| .nil) (by kernel_rfl)
theorem pW(d:Dy)(k:Int)(hv:d.Valid)(h1:-32768<=k)(h2:k<=32768):ae 36 [(ag d),(iP k)] (.aq [(ag (bH (canon d.neg d.m (d.e+k)))),(iP (cQ (canon d.neg d.m (d.e+k))))]):=by
 have hl:=hv.af;have he:=hv.exp;have hb1:=Bc (cE d.m) hl d.neg (d.e+k);obtain⟨hb2,hb3⟩:=Bb (cE d.m) hl d.neg (d.e+k) (by omega) (by omega);rw[bc]at hb1 hb2 hb3;exact tr true Tryz.call36 Tryz.func36 (chain [.c (ff _ ‹_›:ae 68 [(ag d)] _),.c (HW _ (by omega) (by omega):ae 77 [(iP k)] _),ar (d.e+k) (by omega),
  .c (Hq _ _ _ (by omega) (by omega) (by omega):ae 79 [(bP d.neg),(ah (af d.m)),(iP (d.e+k))] _),.c (Hr _ (by omega) (by omega) (by omega):ae 78 [(ag (canon d.neg d.m (d.e+k)))] _)] <| .nil) (by kernel_rfl)
theorem vj(n:Nat)(h:n<4294967296):ae 113 [(iP n)] (ag (ay (n:Int))):=by
 have ok2:ax [n%4294967296,n/4294967296%4294967296]:=ax.cons (Nat.mod_lt _ (by decide)) (ax.cons (Nat.mod_lt _ (by decide)) ax.nil);exact tr true Tryz.call113 Tryz.func113 (chain [.o 5 (.int (fY _ (by omega)):PV.le (.e (.v (.int .u64 (IntKind.u64.wrap (n:Int))))) (.e (.v (.int .u64 (n:Int))))),tF 7 ((n:Int)<0) (by omega),tF 11 ((n:Int)<0) (by omega),
  .o 13 (.int (pL _):PV.le (.e (.v (.int .u32 (IntKind.u32.wrap (n:Int))))) (.e (.v (.int .u32 (((n%4294967296):Nat):Int))))),.a (by omega:0<=(32:Int)/\(32:Int)<=((64:Nat):Int)),
  .o 15 (.int (FK _):PV.le (.e (.v (.int .u64 ((n:Int)/2^32)))) (.e (.v (.int .u64 (((n/4294967296):Nat):Int))))),
  .o 16 (.int (pL _):PV.le (.e (.v (.int .u32 (IntKind.u32.wrap (((n/4294967296):Nat):Int))))) (.e (.v (.int .u32 ((((n/4294967296)%4294967296):Nat):Int))))),
  .o 17 (.e (SR _ _):PV.le (.e (.sl false 2 1 fun i_ j_=>[(.v (.int .u32 (((n%4294967296):Nat):Int))),(.v (.int .u32 ((((n/4294967296)%4294967296):Nat):Int)))].getD (i_*1+j_) (.v (.bool false)))) (.e (ah [(n%4294967296),((n/4294967296)%4294967296)]))),
  .c (KG _ _ _ ok2 (by simp) (by decide) (by decide):ae 79 [(bP false),(ah [(n%4294967296),((n/4294967296)%4294967296)]),(iP 0)] _)]<|rQ (ag (canon false (val [(n%4294967296),((n/4294967296)%4294967296)]) 0)) (ag (ay (n:Int))) (by rw[val_two,show n%4294967296+4294967296*(n/4294967296%4294967296)=n by omega,mC])) (by kernel_rfl)
theorem Nl:ay 1=⟨false,1,0⟩:=by rw[show(1:Int)=((1:Nat):Int)from rfl,mC];exact Eh
theorem vi:ae 113 [iP 1] (ag ⟨false,1,0⟩):=by
 have:=vj 1 (by decide);rwa[show((1:Nat):Int)=1 from rfl,Nl]at this
theorem sr(d:Dy)(p:Nat)(hd:d.Valid)(hp1:8<=p)(hp2:p<=512):ae 301 [(ag d),(iP p)] (.aq [(ag (bq d p false)),(iP (bg d p false))]):=by
 exact tr true Tryz.call301 Tryz.func301 (chain [.c (ub d p false ‹_› (by omega) (by omega))] <| .nil) (by kernel_rfl)
theorem ss(d:Dy)(p:Nat)(hd:d.Valid)(hp1:8<=p)(hp2:p<=512):ae 300 [(ag d),(iP p)] (.aq [(ag (bq d p true)),(iP (bg d p true))]):=by
 exact tr true Tryz.call300 Tryz.func300 (chain [.c (ub d p true ‹_› (by omega) (by omega))] <| .nil) (by kernel_rfl)
theorem xW(d:Dy)(p:Nat)(up:Bool)(N:Nat)(h:(aH d p up N).2≠0):∀ k,aH d p up (N+k)=aH d p up N
 | 0=>rfl
 | k+1=>by
  have ih:=xW d p up N h k;show(if(aH d p up (N+k)).2≠0 then aH d p up (N+k)else _)=_;rw[ih,if_pos h]
theorem mK{d:Dy}{p:Nat}{up:Bool}{k:Nat}(h:(aH d p up k).2=0):aH d p up (k+1)=(bq (cS (aH d p up k).1 d) p up,bg (cS (aH d p up k).1 d) p up):=by
 show(if(aH d p up k).2≠0 then _ else _)=_;rw[if_neg (not_not_intro h)];rfl
theorem Io(d:Dy)(n p:Nat)(hd:d.Valid)(hn:1<=n)(hn2:n<=16)(hp1:8<=p)(hp2:p<=512)(hlo:∀ x,x<n-1->(aH d p false x).2=0):ae 299 [(ag d),(iP n),(iP p),(.fn 301 []),(.fn 92 [])] (.aq [ag (aH d p false (n-1)).1,iP (aH d p false (n-1)).2]):=by
 exact tr true Tryz.call299 Tryz.func299 (chain [.c (sr _ _ ‹_› (by omega) (by omega):ae 301 [(ag d),(iP p)] _),
  .s (Sp.upto (AH d n p) 0 (n-1) (by omega) (fun x hx hltx=>by
    have hx0:=hlo x (by omega);have hv:=lH d (show 1<=p by omega) (show p<=4096 by omega) false x;exact aB (chain [tT 24 ((((x+1):Nat):Int)<(n:Int)) (by omega),tB 27 (by rw[hx0];rfl:(((aH d p false x).2)==0)=true),.c (tZ ((aH d p false x).1) d p ‹_› ‹_› (by omega) (by omega)),
     ar ((((x+1):Nat):Int)+1) (by omega)] <| .e (chain [.o 13 (.int (by rw[mK hx0]):PV.le (.e (iP (bg (cS ((aH d p false x).1) d) p false))) (.e (iP ((aH d p false (x+1)).2)))),
  .b 12 (.of_eq (by rw[mK hx0]):Bx.le (.cells 31 (aM (bq (cS ((aH d p false x).1) d) p false))) (.cells 31 (aM ((aH d p false (x+1)).1))))] <| .nil)) (by kernel_rfl))
  (fun hx=>by
    exact aB (chain [tF 24 (((((n-1)+1):Nat):Int)<(n:Int)) (by omega)] <| .nil) (by kernel_rfl)) (by nofun):bA 3 Tryz.f299 (AH d n p 0) (.exit 0) ⟨41,true,[(13,.e (iP ((aH d p false (n-1)).2))),(12,.box 12 0),(10,.box 10 0)],[(12,.cells 31 (aM ((aH d p false (n-1)).1))),(10,.cells 31 [(bP false),(.v (.slice none 0 0)),(iP 0)])]⟩) (chain [.o 14 (.int rfl:PV.le (.e (iP 1)) (.e (iP (((0+1):Nat):Int)))),.o 13 (.int rfl:PV.le (.e (iP (bg d p false))) (.e (iP ((aH d p false 0).2)))),
  .b 12 (.of_eq rfl:Bx.le (.cells 31 (aM (bq d p false))) (.cells 31 (aM ((aH d p false 0).1))))] <| .nil)] <| .nil) (by kernel_rfl)
theorem Ip(d:Dy)(n N p:Nat)(hd:d.Valid)(hn:1<=n)(hn2:n<=16)(hp1:8<=p)(hp2:p<=512)(hN0:N<n-1)(hlo:∀ x,x<N->(aH d p false x).2=0)(hN:(aH d p false N).2≠0):ae 299 [(ag d),(iP n),(iP p),(.fn 301 []),(.fn 92 [])] (.aq [ag (aH d p false N).1,iP (aH d p false N).2]):=by
 exact tr true Tryz.call299 Tryz.func299 (chain [.c (sr _ _ ‹_› (by omega) (by omega):ae 301 [(ag d),(iP p)] _),
  .s (Sp.upto (AI d n N p) 0 N (by omega) (fun x hx hltx=>by
    have hx0:=hlo x (by omega);have hv:=lH d (show 1<=p by omega) (show p<=4096 by omega) false x;exact aB (chain [tT 24 ((((x+1):Nat):Int)<(n:Int)) (by omega),tB 27 (by rw[hx0];rfl:(((aH d p false x).2)==0)=true),.c (tZ ((aH d p false x).1) d p ‹_› ‹_› (by omega) (by omega)),
     ar ((((x+1):Nat):Int)+1) (by omega)] <| .e (chain [.o 13 (.int (by rw[mK hx0]):PV.le (.e (iP (bg (cS ((aH d p false x).1) d) p false))) (.e (iP ((aH d p false (x+1)).2)))),
  .b 12 (.of_eq (by rw[mK hx0]):Bx.le (.cells 31 (aM (bq (cS ((aH d p false x).1) d) p false))) (.cells 31 (aM ((aH d p false (x+1)).1))))] <| .nil)) (by kernel_rfl))
  (fun hx=>by
    exact aB (chain [tT 24 ((((N+1):Nat):Int)<(n:Int)) (by omega),tB 27 (by simpa using hN:(((aH d p false N).2)==0)=false)] <| .nil) (by kernel_rfl)) (by nofun):bA 3 Tryz.f299 (AI d n N p 0) (.exit 0) ⟨41,true,[(13,.e (iP ((aH d p false N).2))),(12,.box 12 0),(10,.box 10 0)],[(12,.cells 31 (aM ((aH d p false N).1))),(10,.cells 31 [(bP false),(.v (.slice none 0 0)),(iP 0)])]⟩) (chain [.o 14 (.int rfl:PV.le (.e (iP 1)) (.e (iP (((0+1):Nat):Int)))),.o 13 (.int rfl:PV.le (.e (iP (bg d p false))) (.e (iP ((aH d p false 0).2)))),
  .b 12 (.of_eq rfl:Bx.le (.cells 31 (aM (bq d p false))) (.cells 31 (aM ((aH d p false 0).1))))] <| .nil)] <| .nil) (by kernel_rfl)
theorem Iq(d:Dy)(n p:Nat)(hd:d.Valid)(hn:1<=n)(hn2:n<=16)(hp1:8<=p)(hp2:p<=512):ae 299 [(ag d),(iP n),(iP p),(.fn 301 []),(.fn 92 [])] (.aq [ag (aH d p false (n-1)).1,iP (aH d p false (n-1)).2]):=by
 by_cases h:∃ x,x<n-1/\decide ((aH d p false x).2≠0)=true
 .obtain ⟨N,h1,h2,h3⟩:=gG h
  have hN:(aH d p false N).2≠0:=of_decide_eq_true h2;have:=Ip d n N p hd hn hn2 hp1 hp2 h1 (fun x hx=>by simpa using h3 x hx) hN;have e:=xW d p false N hN (n-1-N);rw[show N+(n-1-N)=n-1 by omega]at e;rw[e];exact this
 .exact Io d n p hd hn hn2 hp1 hp2 fun x hx=>Classical.byContradiction fun q=>h ⟨x,hx,decide_eq_true q⟩
theorem Ir(d:Dy)(n p:Nat)(hd:d.Valid)(hn:1<=n)(hn2:n<=16)(hp1:8<=p)(hp2:p<=512)(hlo:∀ x,x<n-1->(aH d p true x).2=0):ae 299 [(ag d),(iP n),(iP p),(.fn 300 []),(.fn 93 [])] (.aq [ag (aH d p true (n-1)).1,iP (aH d p true (n-1)).2]):=by
 exact tr true Tryz.call299 Tryz.func299 (chain [.c (ss _ _ ‹_› (by omega) (by omega):ae 300 [(ag d),(iP p)] _),
  .s (Sp.upto (AJ d n p) 0 (n-1) (by omega) (fun x hx hltx=>by
    have hx0:=hlo x (by omega);have hv:=lH d (show 1<=p by omega) (show p<=4096 by omega) true x;exact aB (chain [tT 24 ((((x+1):Nat):Int)<(n:Int)) (by omega),tB 27 (by rw[hx0];rfl:(((aH d p true x).2)==0)=true),.c (ua ((aH d p true x).1) d p ‹_› ‹_› (by omega) (by omega)),
     ar ((((x+1):Nat):Int)+1) (by omega)] <| .e (chain [.o 13 (.int (by rw[mK hx0]):PV.le (.e (iP (bg (cS ((aH d p true x).1) d) p true))) (.e (iP ((aH d p true (x+1)).2)))),
  .b 12 (.of_eq (by rw[mK hx0]):Bx.le (.cells 31 (aM (bq (cS ((aH d p true x).1) d) p true))) (.cells 31 (aM ((aH d p true (x+1)).1))))] <| .nil)) (by kernel_rfl))
  (fun hx=>by
    exact aB (chain [tF 24 (((((n-1)+1):Nat):Int)<(n:Int)) (by omega)] <| .nil) (by kernel_rfl)) (by nofun):bA 3 Tryz.f299 (AJ d n p 0) (.exit 0) ⟨41,true,[(13,.e (iP ((aH d p true (n-1)).2))),(12,.box 12 0),(10,.box 10 0)],[(12,.cells 31 (aM ((aH d p true (n-1)).1))),(10,.cells 31 [(bP false),(.v (.slice none 0 0)),(iP 0)])]⟩) (chain [.o 14 (.int rfl:PV.le (.e (iP 1)) (.e (iP (((0+1):Nat):Int)))),.o 13 (.int rfl:PV.le (.e (iP (bg d p true))) (.e (iP ((aH d p true 0).2)))),
  .b 12 (.of_eq rfl:Bx.le (.cells 31 (aM (bq d p true))) (.cells 31 (aM ((aH d p true 0).1))))] <| .nil)] <| .nil) (by kernel_rfl)
theorem Is(d:Dy)(n N p:Nat)(hd:d.Valid)(hn:1<=n)(hn2:n<=16)(hp1:8<=p)(hp2:p<=512)(hN0:N<n-1)(hlo:∀ x,x<N->(aH d p true x).2=0)(hN:(aH d p true N).2≠0):ae 299 [(ag d),(iP n),(iP p),(.fn 300 []),(.fn 93 [])] (.aq [ag (aH d p true N).1,iP (aH d p true N).2]):=by
 exact tr true Tryz.call299 Tryz.func299 (chain [.c (ss _ _ ‹_› (by omega) (by omega):ae 300 [(ag d),(iP p)] _),
  .s (Sp.upto (AK d n N p) 0 N (by omega) (fun x hx hltx=>by
    have hx0:=hlo x (by omega);have hv:=lH d (show 1<=p by omega) (show p<=4096 by omega) true x;exact aB (chain [tT 24 ((((x+1):Nat):Int)<(n:Int)) (by omega),tB 27 (by rw[hx0];rfl:(((aH d p true x).2)==0)=true),.c (ua ((aH d p true x).1) d p ‹_› ‹_› (by omega) (by omega)),
     ar ((((x+1):Nat):Int)+1) (by omega)] <| .e (chain [.o 13 (.int (by rw[mK hx0]):PV.le (.e (iP (bg (cS ((aH d p true x).1) d) p true))) (.e (iP ((aH d p true (x+1)).2)))),
  .b 12 (.of_eq (by rw[mK hx0]):Bx.le (.cells 31 (aM (bq (cS ((aH d p true x).1) d) p true))) (.cells 31 (aM ((aH d p true (x+1)).1))))] <| .nil)) (by kernel_rfl))
  (fun hx=>by
    exact aB (chain [tT 24 ((((N+1):Nat):Int)<(n:Int)) (by omega),tB 27 (by simpa using hN:(((aH d p true N).2)==0)=false)] <| .nil) (by kernel_rfl)) (by nofun):bA 3 Tryz.f299 (AK d n N p 0) (.exit 0) ⟨41,true,[(13,.e (iP ((aH d p true N).2))),(12,.box 12 0),(10,.box 10 0)],[(12,.cells 31 (aM ((aH d p true N).1))),(10,.cells 31 [(bP false),(.v (.slice none 0 0)),(iP 0)])]⟩) (chain [.o 14 (.int rfl:PV.le (.e (iP 1)) (.e (iP (((0+1):Nat):Int)))),.o 13 (.int rfl:PV.le (.e (iP (bg d p true))) (.e (iP ((aH d p true 0).2)))),
  .b 12 (.of_eq rfl:Bx.le (.cells 31 (aM (bq d p true))) (.cells 31 (aM ((aH d p true 0).1))))] <| .nil)] <| .nil) (by kernel_rfl)
theorem It(d:Dy)(n p:Nat)(hd:d.Valid)(hn:1<=n)(hn2:n<=16)(hp1:8<=p)(hp2:p<=512):ae 299 [(ag d),(iP n),(iP p),(.fn 300 []),(.fn 93 [])] (.aq [ag (aH d p true (n-1)).1,iP (aH d p true (n-1)).2]):=by
 by_cases h:∃ x,x<n-1/\decide ((aH d p true x).2≠0)=true
 .obtain ⟨N,h1,h2,h3⟩:=gG h
  have hN:(aH d p true N).2≠0:=of_decide_eq_true h2;have:=Is d n N p hd hn hn2 hp1 hp2 h1 (fun x hx=>by simpa using h3 x hx) hN;have e:=xW d p true N hN (n-1-N);rw[show N+(n-1-N)=n-1 by omega]at e;rw[e];exact this
 .exact Ir d n p hd hn hn2 hp1 hp2 fun x hx=>Classical.byContradiction fun q=>h ⟨x,hx,decide_eq_true q⟩
theorem Aq(d:Dy)(n p:Nat)(hd:d.Valid)(h0:¬d.sign<0)(hn:1<=n)(hn2:n<=16)(hp1:8<=p)(hp2:p<=512):ae 278 [(ag d),(iP n),(iP p),(bP false)] (.aq [ag (b5 d n p false).1,iP (b5 d n p false).2]):=by
 exact tr true Tryz.call278 Tryz.func278 (chain [.c (dt _ ‹_›:ae 35 [(ag d)] _),tB 14 (decide_eq_false h0),
  .c (Iq _ _ _ ‹_› (by omega) (by omega) (by omega) (by omega):ae 299 [(ag d),(iP n),(iP p),(.fn 301 []),(.fn 92 [])] _)]<|rQ (.aq [(ag ((aH d p false (n-1)).1)),(iP ((aH d p false (n-1)).2))]) (.aq [ag (b5 d n p false).1,iP (b5 d n p false).2]) (by unfold b5;rw[if_neg h0])) (by kernel_rfl)
theorem Ar(d:Dy)(n p:Nat)(hd:d.Valid)(h0:¬d.sign<0)(hn:1<=n)(hn2:n<=16)(hp1:8<=p)(hp2:p<=512):ae 278 [(ag d),(iP n),(iP p),(bP true)] (.aq [ag (b5 d n p true).1,iP (b5 d n p true).2]):=by
 exact tr true Tryz.call278 Tryz.func278 (chain [.c (dt _ ‹_›:ae 35 [(ag d)] _),tB 14 (decide_eq_false h0),
  .c (It _ _ _ ‹_› (by omega) (by omega) (by omega) (by omega):ae 299 [(ag d),(iP n),(iP p),(.fn 300 []),(.fn 93 [])] _)]<|rQ (.aq [(ag ((aH d p true (n-1)).1)),(iP ((aH d p true (n-1)).2))]) (.aq [ag (b5 d n p true).1,iP (b5 d n p true).2]) (by unfold b5;rw[if_neg h0])) (by kernel_rfl)
theorem sign_neg{d:Dy}(h:d.sign<0):¬(aJ d).sign<0:=by
 rw[(fW _).2,fD];have:=(fW d).2.1 h
 grind
theorem Hv(d:Dy)(n p:Nat)(hd:d.Valid)(h0:¬d.sign<0)(hn:1<=n)(hn2:n<=16)(hp1:8<=p)(hp2:p<=512):ae 278 [ag d,iP (n:Int),iP (p:Int),bP false] (.aq [ag (aH d p false (n-1)).1,iP (aH d p false (n-1)).2]):=by
 have:=Aq d n p hd h0 hn hn2 hp1 hp2;unfold b5 at this;rwa[if_neg h0]at this
theorem Hw(d:Dy)(n p:Nat)(hd:d.Valid)(h0:¬d.sign<0)(hn:1<=n)(hn2:n<=16)(hp1:8<=p)(hp2:p<=512):ae 278 [ag d,iP (n:Int),iP (p:Int),bP true] (.aq [ag (aH d p true (n-1)).1,iP (aH d p true (n-1)).2]):=by
 have:=Ar d n p hd h0 hn hn2 hp1 hp2;unfold b5 at this;rwa[if_neg h0]at this
theorem Ht(d:Dy)(n p:Nat)(hd:d.Valid)(h0:d.sign<0)(hn:1<=n)(hn2:n<=16)(hp1:8<=p)(hp2:p<=512):ae 278 [(ag d),(iP n),(iP p),(bP false)] (.aq [ag (b5 d n p false).1,iP (b5 d n p false).2]):=by
 have hneg:=lE hd;have h1:=sign_neg h0;have hv:=lH (aJ d) (show 1<=p by omega) (show p<=4096 by omega) true (n-1);exact tr true Tryz.call278 Tryz.func278 (chain [.c (dt _ ‹_›:ae 35 [(ag d)] _),tB 14 (decide_eq_true h0),.c (kZ _ ‹_›:ae 191 [(ag d)] _),
  .c (Hw _ _ _ hneg h1 hn hn2 hp1 hp2:ae 278 [(ag (aJ d)),(iP n),(iP p),(bP true)] _),.c (kZ _ ‹_›:ae 191 [(ag ((aH (aJ d) p true (n-1)).1))] _)]<|rQ (.aq [(ag (aJ ((aH (aJ d) p true (n-1)).1))),(iP ((aH (aJ d) p true (n-1)).2))]) (.aq [ag (b5 d n p false).1,iP (b5 d n p false).2]) (by unfold b5;rw[if_pos h0];rfl)) (by kernel_rfl)
theorem As(d:Dy)(n p:Nat)(hd:d.Valid)(hn:1<=n)(hn2:n<=16)(hp1:8<=p)(hp2:p<=512):ae 278 [ag d,iP (n:Int),iP (p:Int),bP false] (.aq [ag (b5 d n p false).1,iP (b5 d n p false).2]):=by
 by_cases h0:d.sign<0
 .exact Ht d n p hd h0 hn hn2 hp1 hp2
 .exact Aq d n p hd h0 hn hn2 hp1 hp2
theorem Hu(d:Dy)(n p:Nat)(hd:d.Valid)(h0:d.sign<0)(hn:1<=n)(hn2:n<=16)(hp1:8<=p)(hp2:p<=512):ae 278 [(ag d),(iP n),(iP p),(bP true)] (.aq [ag (b5 d n p true).1,iP (b5 d n p true).2]):=by
 have hneg:=lE hd;have h1:=sign_neg h0;have hv:=lH (aJ d) (show 1<=p by omega) (show p<=4096 by omega) false (n-1);exact tr true Tryz.call278 Tryz.func278 (chain [.c (dt _ ‹_›:ae 35 [(ag d)] _),tB 14 (decide_eq_true h0),.c (kZ _ ‹_›:ae 191 [(ag d)] _),
  .c (Hv _ _ _ hneg h1 hn hn2 hp1 hp2:ae 278 [(ag (aJ d)),(iP n),(iP p),(bP false)] _),.c (kZ _ ‹_›:ae 191 [(ag ((aH (aJ d) p false (n-1)).1))] _)]<|rQ (.aq [(ag (aJ ((aH (aJ d) p false (n-1)).1))),(iP ((aH (aJ d) p false (n-1)).2))]) (.aq [ag (b5 d n p true).1,iP (b5 d n p true).2]) (by unfold b5;rw[if_pos h0];rfl)) (by kernel_rfl)
theorem At(d:Dy)(n p:Nat)(hd:d.Valid)(hn:1<=n)(hn2:n<=16)(hp1:8<=p)(hp2:p<=512):ae 278 [ag d,iP (n:Int),iP (p:Int),bP true] (.aq [ag (b5 d n p true).1,iP (b5 d n p true).2]):=by
 by_cases h0:d.sign<0
 .exact Hu d n p hd h0 hn hn2 hp1 hp2
 .exact Ar d n p hd h0 hn hn2 hp1 hp2
theorem Iu(x:Iv)(n p:Nat)(hx:x.Valid)(ha:x.all=true)(hn:n<=16)(hp1:8<=p)(hp2:p<=512):ae 241 [(ai x),(iP n),(iP p)] (ai (fV x n p)):=by
 exact tr true Tryz.call241 Tryz.func241 (chain [.o 12 (.e (di _):PV.le (.e (.sl true 1 7 fun i_ j_=>(aE x).getD (i_*7+j_) (.v (.bool false)))) (.e (ak [x]))),.c (eI _ ‹_›:ae 86 [(ak [x])] _),tB 13 (by rw[ha];rfl:(!x.all)=false),
  .c du]<|rQ (ai an) (ai (fV x n p)) (by unfold fV;rw[if_pos ha])) (by kernel_rfl)
theorem Iz(x:Iv)(n p:Nat)(hx:x.Valid)(ha:x.all=false)(h0:n=0)(hp1:8<=p)(hp2:p<=512):ae 241 [(ai x),(iP n),(iP p)] (ai (fV x n p)):=by
 have v1:=pr;exact tr true Tryz.call241 Tryz.func241 (chain [.o 12 (.e (di _):PV.le (.e (.sl true 1 7 fun i_ j_=>(aE x).getD (i_*7+j_) (.v (.bool false)))) (.e (ak [x]))),.c (eI _ ‹_›:ae 86 [(ak [x])] _),tB 13 (by rw[ha];rfl:(!x.all)=true),
  .c (jy _:ae 87 [(iP p)] _),tB 17 (fU.2 ⟨by omega,by omega⟩:(cw (p:Int))=true),tF 22 ((n:Int)<0) (by omega),tF 26 (16<(n:Int)) (by omega),
  tB 30 (ja h0:((n:Int)==0)=true),.c (vi:ae 113 [(iP 1)] _),.c (pd (Dy.mk false 1 0) ‹_›)]<|rQ (ai (cG (Dy.mk false 1 0))) (ai (fV x n p)) (by unfold fV;rw[if_neg (by rw[ha];decide),if_pos h0])) (by kernel_rfl)
theorem Iw(x:Iv)(n p:Nat)(hx:x.Valid)(ha:x.all=false)(h0:n≠0)(hn:n<=16)(he:n%2=0)(hp1:8<=p)(hp2:p<=512):ae 241 [(ai x),(iP n),(iP p)] (ai (fV x n p)):=by
 have va:=r9 hx;obtain⟨w1,w2⟩:=va.ends;exact tr true Tryz.call241 Tryz.func241 (chain [.o 12 (.e (di _):PV.le (.e (.sl true 1 7 fun i_ j_=>(aE x).getD (i_*7+j_) (.v (.bool false)))) (.e (ak [x]))),.c (eI _ ‹_›:ae 86 [(ak [x])] _),tB 13 (by rw[ha];rfl:(!x.all)=true),
  .c (jy _:ae 87 [(iP p)] _),tB 17 (fU.2 ⟨by omega,by omega⟩:(cw (p:Int))=true),tF 22 ((n:Int)<0) (by omega),tF 26 (16<(n:Int)) (by omega),
  tB 30 (dW h0:((n:Int)==0)=false),.a (by omega:0<(2:Int)),
  .o 34 (.int (by rw[Int.tmod_eq_emod_of_nonneg (by omega)];omega):PV.le (.e (iP (Int.tmod (n:Int) 2))) (.e (iP (((n%2):Nat):Int)))),tB 35 (ja he:((((n%2):Nat):Int)==0)=true),
  .c (wY x ‹_›),.c (As _ _ _ ‹_› (by omega) (by omega) (by omega) (by omega):ae 278 [(ag ((bh x).lo)),(iP n),(iP p),(bP false)] _),
  .c (At _ _ _ ‹_› (by omega) (by omega) (by omega) (by omega):ae 278 [(ag ((bh x).hi)),(iP n),(iP p),(bP true)] _),
  .c (nC ((b5 ((bh x).lo) n p false).1) ((b5 ((bh x).hi) n p true).1) ((b5 ((bh x).lo) n p false).2) ((b5 ((bh x).hi) n p true).2))]<|rQ (ai (ck ((b5 ((bh x).lo) n p false).1) ((b5 ((bh x).lo) n p false).2) ((b5 ((bh x).hi) n p true).1) ((b5 ((bh x).hi) n p true).2))) (ai (fV x n p)) (by unfold fV iN;rw[if_neg (by rw[ha];decide),if_neg h0,if_pos he])) (by kernel_rfl)
theorem Ix(x:Iv)(n p:Nat)(hx:x.Valid)(ha:x.all=false)(h0:n≠0)(hn:n<=16)(he:¬n%2=0)(hp1:8<=p)(hp2:p<=512):ae 241 [(ai x),(iP n),(iP p)] (ai (fV x n p)):=by
 have va:=hx;obtain⟨w1,w2⟩:=va.ends;exact tr true Tryz.call241 Tryz.func241 (chain [.o 12 (.e (di _):PV.le (.e (.sl true 1 7 fun i_ j_=>(aE x).getD (i_*7+j_) (.v (.bool false)))) (.e (ak [x]))),.c (eI _ ‹_›:ae 86 [(ak [x])] _),tB 13 (by rw[ha];rfl:(!x.all)=true),
  .c (jy _:ae 87 [(iP p)] _),tB 17 (fU.2 ⟨by omega,by omega⟩:(cw (p:Int))=true),tF 22 ((n:Int)<0) (by omega),tF 26 (16<(n:Int)) (by omega),
  tB 30 (dW h0:((n:Int)==0)=false),.a (by omega:0<(2:Int)),
  .o 34 (.int (by rw[Int.tmod_eq_emod_of_nonneg (by omega)];omega):PV.le (.e (iP (Int.tmod (n:Int) 2))) (.e (iP (((n%2):Nat):Int)))),tB 35 (dW he:((((n%2):Nat):Int)==0)=false),
  .c (As _ _ _ ‹_› (by omega) (by omega) (by omega) (by omega):ae 278 [(ag x.lo),(iP n),(iP p),(bP false)] _),
  .c (At _ _ _ ‹_› (by omega) (by omega) (by omega) (by omega):ae 278 [(ag x.hi),(iP n),(iP p),(bP true)] _),
  .c (nC ((b5 x.lo n p false).1) ((b5 x.hi n p true).1) ((b5 x.lo n p false).2) ((b5 x.hi n p true).2))]<|rQ (ai (ck ((b5 x.lo n p false).1) ((b5 x.lo n p false).2) ((b5 x.hi n p true).1) ((b5 x.hi n p true).2))) (ai (fV x n p)) (by unfold fV iN;rw[if_neg (by rw[ha];decide),if_neg h0,if_neg he])) (by kernel_rfl)
theorem Iy(x:Iv)(n p:Nat)(hx:x.Valid)(hn:n<=16)(hp1:8<=p)(hp2:p<=512):ae 241 [ai x,iP (n:Int),iP (p:Int)] (ai (fV x n p)):=by
 cases ha:x.all with
 | true=>exact Iu x n p hx ha hn hp1 hp2
 | false =>
  by_cases h0:n=0
  .exact Iz x n p hx ha h0 hp1 hp2
  .by_cases he:n%2=0
   .exact Iw x n p hx ha h0 hn he hp1 hp2
   .exact Ix x n p hx ha h0 hn he hp1 hp2
theorem AE(x y:Iv)(hx:x.Valid)(hy:y.Valid)(xa:x.all=false)(ya:y.all=false):ae 158 [(ai x),(ai y)] (ai (eV x y)):=by
 obtain⟨v1,v2⟩:=hx.ends;obtain⟨v3,v4⟩:=hy.ends;exact tr true Tryz.call158 Tryz.func158 (chain [.o 7 (.e (ln _ _):PV.le (.e (.sl true 2 7 fun i_ j_=>(aE x++aE y).getD (i_*7+j_) (.v (.bool false)))) (.e (ak [x,y]))),.c (lk _ _ ‹_› ‹_›:ae 86 [(ak [x,y])] _),
  tB 8 (by rw[xa,ya];rfl:(!(x.all||y.all))=true),.c (th x.lo y.lo ‹_› ‹_›),.c (tk x.hi y.hi ‹_› ‹_›)]<|rQ (ai (Iv.mk (minD x.lo y.lo) (maxD x.hi y.hi) false)) (ai (eV x y)) (by unfold eV;rw[xa,ya];rfl)) (by kernel_rfl)
theorem cN(z:Int):(z==0)=decide (z=0):=by by_cases h:z=0<;>simp[h]
theorem fm(x:Iv)(p:Nat)(hx:x.Valid)(xa:x.all=false)(hp1:8<=p)(hp2:p<=512):ae 160 [(ai x),(iP p)] (.aq [ag (bK x p),bP (decide (eP x p=0))]):=by
 obtain⟨v1,v2⟩:=hx.ends;have v3:=lE v1;exact tr true Tryz.call160 Tryz.func160 (chain [.o 9 (.e (di _):PV.le (.e (.sl true 1 7 fun i_ j_=>(aE x).getD (i_*7+j_) (.v (.bool false)))) (.e (ak [x]))),.c (eI _ ‹_›:ae 86 [(ak [x])] _),tB 10 (by rw[xa];rfl:(!x.all)=true),
  .c (jy _:ae 87 [(iP p)] _),tB 14 (fU.2 ⟨by omega,by omega⟩:(cw (p:Int))=true),.c (kZ _ ‹_›:ae 191 [(ag x.lo)] _),
  .c (EH x.hi (aJ x.lo) p ‹_› ‹_› (by omega) (by omega))]<|rQ (.aq [(ag (bq (az x.hi (aJ x.lo)) p true)),(bP ((bg (az x.hi (aJ x.lo)) p true)==0))]) (.aq [ag (bK x p),bP (decide (eP x p=0))]) (by rw[cN];rfl)) (by kernel_rfl)
theorem sk(x y:Iv):mB x y=(y.all||(!x.all&&(decide (aC y.lo x.lo<=0)&&decide (aC x.hi y.hi<=0)))):=rfl
theorem Ia(x y:Iv)(hx:x.Valid)(hy:y.Valid):ae 63 [(ai x),(ai y)] (bP (mB x y)):=by
 obtain⟨v1,v2⟩:=hx.ends;obtain⟨v3,v4⟩:=hy.ends;exact tr true Tryz.call63 Tryz.func63 (chain [.c (dc x ‹_›),.c (dc y ‹_›)] <| .w (y.all=true)
  (fun k1=>chain [tB 14 (k1)]<|rQ (bP true) (bP (mB x y)) (by rw[sk];simp[k1]))
  (fun k1=>chain [tB 14 (Bool.eq_false_iff.2 k1)] <| .w (x.all=true)
   (fun k2=>chain [tB 17 (k2)]<|rQ (bP false) (bP (mB x y)) (by rw[sk];simp[k1,k2]))
   (fun k2=>chain [tB 17 (Bool.eq_false_iff.2 k2),.c (bZ _ _ ‹_› ‹_›:ae 37 [(ag y.lo),(ag x.lo)] _)] <| .w ((aC y.lo x.lo)<=0)
    (fun k3=>chain [tB 25 (decide_eq_true k3),.c (bZ _ _ ‹_› ‹_›:ae 37 [(ag x.hi),(ag y.hi)] _)]<|rQ (bP (decide ((aC x.hi y.hi)<=0))) (bP (mB x y)) (by rw[sk];simp[k1,k2,k3]))
    (fun k3=>chain [tB 25 (decide_eq_false k3)]<|rQ (bP false) (bP (mB x y)) (by rw[sk];simp[k1,k2,k3]))))) (by kernel_rfl)
open Go.RowKit Fp Pu
theorem TK{α:Type}{l:List α}{i:Nat}{d:α}(h:i<l.length):l.getD i d=l[i]:=by
 rw[List.getD_eq_getElem?_getD,List.getElem?_eq_getElem h];rfl
theorem nE{T n n' k:Nat}{F:Nat->Iv}{y:Iv}(hn:n=k)(hn':n'=k+1)(hy:y=F k) :
  Bx.le (.row true T (n+[y].length) 7 fun i j=>if i<n then bO ((List.range k).map F) i j else(E.gS (ak [y])) (i-n) j) (.row true T n' 7 (bO ((List.range (k+1)).map F))):=by
 subst hn hn' hy;refine .row rfl fun i j hi hj=>⟨.of_eq ?_,tg _ _ hj⟩
 have hi:i<n+1:=hi;by_cases h:i<n
 .rw [if_pos h]
  simp only[bO];rw[yb h,yb hi]
 .have hi':i=n:=by omega
  subst hi';rw[if_neg h,Nat.sub_self];simp only[bO];rw[yb hi];rfl
theorem pe{n:Nat}{M:List Iv}(hn:n=M.length):E.le (.sl true n 7 (bO M)) (ak M):=by subst hn;exact .refl _
open Go.RowKit Fp Pu
open Go.RowKit Fp Pu
theorem nN(n:Nat)(h:n<4294967296):(aP ((n:Nat):Int)).Valid:=jG (wU n h)
open Go.RowKit Fp Pu
structure Fp.Iv.NN(x:Iv):Prop where
 lo:x.lo.neg=false
 hi:x.hi.neg=false
theorem Bd(m:Nat)(e:Int):(canon false m e).neg=false:=by unfold canon;split<;>rfl
theorem PK{d:Dy}(h:d.neg=false):(cG d).NN:=⟨h,h⟩
theorem Eb(n:Nat):(aP ((n:Nat):Int)).NN:=by
 refine PK ?_;rw[mC];exact Bd _ _
theorem Nf{c:Nat}(hc:0<c):(ay ((c:Nat):Int)).m≠0:=by
 rw[mC];exact(oF (s:=false) (e:=0) (by omega)).2.2.1
theorem Ph{c:Nat}(hc:0<c):dw (aP ((c:Nat):Int))=1:=by
 unfold dw aP cG;simp only[Bool.false_eq_true,if_false];rw[if_pos];unfold Dy.sign;rw[if_neg (Nf hc),show(ay ((c:Nat):Int)).neg=false by rw[mC];exact Bd _ _];simp
open Go.RowKit Fp Pu
open Go.RowKit Fp Pu
section
variable {m m':List (List Iv)} {h h':Iv} {n p:Nat}
theorem qU(j:Nat)(hj:j<4294967296):(aP ((j:Nat):Int)).Valid:=jG (wU j hj)
end
theorem PY{d:Dy}(h:d.neg=false):0<=d.q:=by
 rw[eN,h];exact Rat.mul_nonneg (Rat.natCast_nonneg) (Rat.le_of_lt (df _))
structure Lq(x y:Iv):Prop where
 v:x.Valid
 v':y.Valid
 nn:x.NN
 TN:y.NN
 le:y.all=true\/(x.all=false/\x.hi.q<=y.hi.q)
theorem Fp.Iv.has.nn{x:Iv}{r:Rat}(h:x.has r)(k:x.all=false)(hx:x.NN):0<=r/\r<=x.hi.q:=by
 obtain⟨h1,h2⟩:=h.ends k;have:=PY hx.lo;exact⟨by grind,h2⟩
theorem Ec(c:Nat):(aP ((c:Nat):Int)).lo.q=(c:Rat)/\(aP ((c:Nat):Int)).hi.q=(c:Rat)/\(aP ((c:Nat):Int)).all=false:=by
 refine⟨?_,?_,rfl⟩
 .show (ay _).q=_
  rw[mL];exact Rat.intCast_natCast c
 .show (ay _).q=_
  rw[mL];exact Rat.intCast_natCast c
theorem Lq.num(c:Nat)(hc:c<4294967296):Lq (aP ((c:Nat):Int)) (aP ((c:Nat):Int)):=⟨qU c hc,qU c hc,Eb c,Eb c,.inr ⟨rfl,Rat.le_refl⟩⟩
open Go.RowKit Fp Pu
theorem yp(s:Bool)(m:Nat)(e:Int)(hl:(af m).length<=3000)(he1:-1000000<=e)(he2:e<=1000000):ae 76 [bP s,ah (af m),iP e] (ag (canon s m e)):=by
 refine⟨Tryz.call76,fun w B vs hK hB hr=>?_⟩;obtain⟨v1,vs,rfl,h1,hr⟩:=hr.cL;obtain⟨v2,vs,rfl,h2,hr⟩:=hr.cL;obtain⟨v3,vs,rfl,h3,hr⟩:=hr.cL;obtain rfl:=hr.fB;obtain rfl:=aw.bR h1;obtain rfl:=aw.bR h3;obtain⟨A,c,rfl,s1⟩:=j9 (cE m) h2;have:=ud s A c (af m) e w s1 hl he1 he2;rw[bc]at this;exact this.mono fun e w' h=>rd B w e w' hB h
theorem rn(a:Dy)(ha:a.Valid):ae 46 [ag a] (bP true):=kG Tryz.call46 (fun A c w h _=>QX a A c w h ha) rv
theorem ue(a:Dy):ae 47 [ag a] (iP a.sign):=kG Tryz.call47 (fun A c w h _=>QT a A c w h) rv
theorem QL(a:Dy):ae 99 [ag a] (ag (aJ a)) :=
 kG Tryz.call99 (fun A c w h _=>by
  have:=QK a.neg A c (af a.m) a.e w h (jg _);rw[bc]at this;exact this) rd
theorem uf(a:Dy)(ha:me a):ae 97 [ag a] (iP a.top):=kG Tryz.call97 (fun A c w h _=>QW a A c w h ha) rv
theorem QH(n:Nat)(hn:n<4294967296):ae 81 [iP ((n:Nat):Int)] (ag (canon false n 0)):=by
 refine⟨Tryz.call81,fun w B vs hK hB hr=>?_⟩;obtain⟨v1,vs,rfl,h1,hr⟩:=hr.cL;obtain rfl:=hr.fB;obtain rfl:=aw.bR h1;exact(QG n w hn).mono fun e w' h=>rd B w e w' hB h
theorem Fb(a b:Dy)(r:Bool)(hr:r=true↔a=b)(ha:(af a.m).length<=100000)(hb:(af b.m).length<=100000):ae 101 [ag a,ag b] (bP r) :=
 tV Tryz.call101 (fun A c A' c' w h k _=>QC a b A A' c c' w _ h k ha hb hr) rv
end Go.Proofs.YtdgnpeddgdclhaaGreatDoor
namespace Go.Proofs.YtdgnpeddgdclhaaGreatDoor.Fp
end Go.Proofs.YtdgnpeddgdclhaaGreatDoor.Fp
namespace Go.Proofs.YtdgnpeddgdclhaaGreatDoor
open Go.RowKit Fp Pu
theorem QQ(d:Dy)(k:Int)(hd:d.Valid)(hk1:-32768<=k)(hk2:k<=32768)(hr:cW (canon d.neg d.m (d.e+k))):ae 31 [ag d,iP k] (.aq [ag (canon d.neg d.m (d.e+k)),iP 0]):=by
 refine⟨Tryz.call31,fun w B vs hK hB hrr=>?_⟩;obtain⟨v1,vs,rfl,h1,hrr⟩:=hrr.cL;obtain⟨v2,vs,rfl,h2,hrr⟩:=hrr.cL;obtain rfl:=hrr.fB;obtain⟨A,c,rfl,s1⟩:=sN h1;obtain rfl:=aw.bR h2;have:=QR d.neg A c (af d.m) d.e k w s1 hd.jR hk1 hk2 (by rw[bc];exact hr);rw[bc]at this;exact this.mono fun e w' h=>rm B w e w' hB h
theorem Ba{n:Int}{e:Int}:canon (ay n).neg (ay n).m ((ay n).e+e)=bT n e:=by
 unfold ay bT;by_cases h:n.natAbs=0
 .rw [h,qa,qa]
  show canon false 0 _=_;rw[qa]
 .have h1:=qm h
  rw[show canon (decide (n<0)) n.natAbs 0=⟨decide (n<0),n.natAbs/2^aX n.natAbs,0+(aX n.natAbs:Int)⟩by unfold canon;rw[if_neg h]];show canon (decide (n<0)) (n.natAbs/2^aX n.natAbs) (0+(aX n.natAbs:Int)+e)=_;rw[<-vF _ _ _ (aX n.natAbs),h1];congr 1;omega
theorem pZ{n e:Int}(h1:n.natAbs<4294967296)(h2:-1000<=e)(h3:e<=1000):(bT n e).Valid:=by
 refine⟨gR _ _ _,?_⟩;unfold bT;by_cases h0:n.natAbs=0
 .rw [h0,qa];exact .inl rfl
 .have:=oF (s:=decide (n<0)) (e:=e) h0
  have hb:aj n.natAbs<=32:=cC.2 h1;obtain⟨h4,h5,h6,_⟩:=this;have:=dZ h6;exact .inr ⟨by omega,by omega,by omega,by omega⟩
theorem dD{n:Int}(h1:n.natAbs<4294967296):(ay n).Valid:=pZ h1 (by decide) (by decide)
theorem QE(k:Nat)(w:World)(h0:0<k)(hn:k<4294967296) :
  Calls Tryz.prog 81 #[.int .i64 (-(k:Int))] w (kn w (canon true k 0)):=by
 have hm:=kS k (by omega);have hm2:(k:Int)%4294967296=k:=by omega
 rw[hm2]at hm;have hd:(k:Int)/4294967296=0:=by omega
 have hlt:(-(k:Int))<0:=by omega
 have hdl:decide ((-(k:Int))<0)=true:=decide_eq_true hlt;have hu:IntKind.u64.wrap (-(k:Int))=18446744073709551616-k:=by rw[IntKind.wrap_u64];omega
 have hs:IntKind.u64.wrap (-(18446744073709551616-(k:Int)))=k:=by rw[IntKind.wrap_u64];omega
 have HC:=Lib.hid (fun(A:Option Addr) c w (h:Sl w A c [k,0])=>ud true A c [k,0] 0 w h (by simp) (by decide) (by decide));have hv:val [k,0]=k:=by simp
 rw[hv]at HC;clear hv;generalize canon true k 0=d at *
 generalize hN:(-(k:Int))=N at *
 go_enter Tryz.func81,Tryz.ntmps81;go_wp2_with fail;refine(HC.out _ _ _ (Sl.two _ _ (by simp) _ _ k 0 rfl rfl hn (by decide))).mono ?_;rintro r w1 ⟨A1,c1,rfl,hs1,hb1⟩;have hb0:Ext (w.alloc (.cells #[.bool false,.slice none 0 0,.int .i64 0] 31)) w1:=(Ext.alloc _ _).trans hb1;have bx:=(aK.new w false none 0 0 0).ext hb0
 have b0:=bx.c0;have b1:=bx.c1;have b2:=bx.c2;have f0:=bx.fr 0;have f1:=bx.fr 1;have f2:=bx.fr 2;go_wp2;exact iR rfl rfl rfl (bx.set _ _ _ _ _) rfl (bx.fF hs1 _ _ _ _ _) (aK.fh ((Ext.alloc _ _).trans hb0) (Nat.le_refl _) _ _ _ _ _)
theorem CO(k:Nat)(h0:0<k):ay (-(k:Int))=canon true k 0:=by
 unfold ay bT;rw[decide_eq_true (show(-(k:Int))<0 by omega),Int.natAbs_neg,Int.natAbs_natCast]
theorem QF(n:Int)(h:n.natAbs<4294967296):ae 81 [iP n] (ag (ay n)):=by
 by_cases h0:0<=n
 .obtain ⟨k,rfl⟩:=Int.eq_ofNat_of_zero_le h0
  rw[mC];exact QH k (by omega)
 .obtain ⟨k,rfl⟩:∃ k:Nat,n = -(k:Int):=⟨n.natAbs,by omega⟩
  rw[CO k (by omega)];refine⟨Tryz.call81,fun w B vs hK hB hr=>?_⟩;obtain⟨v1,vs,rfl,h1,hr⟩:=hr.cL;obtain rfl:=hr.fB;obtain rfl:=aw.bR h1;exact(QE k w (by omega) (by omega)).mono fun e w' h=>rd B w e w' hB h
open Go.RowKit Fp Pu
open Classical in
noncomputable def Fp.iu(d:Dy)(k:Int):Dy:=if cW (canon d.neg d.m (d.e+k))then canon d.neg d.m (d.e+k)else aI
open Classical in
noncomputable def Fp.oc(d:Dy)(k:Int):Int:=if cW (canon d.neg d.m (d.e+k))then 0 else 9
theorem Fw(d:Dy)(k:Int):(iu d k).Valid:=by
 unfold iu;split
 .rename_i h;exact⟨gR _ _ _,h⟩
 .exact fP
noncomputable def Fp.cX(x:Iv)(k:Int):Iv:=if x.all then an else ck (iu x.lo k) (oc x.lo k) (iu x.hi k) (oc x.hi k)
def Fp.fH(x:Iv):Iv:=if x.all then x else⟨aJ (dj x),dj x,false⟩
def Fp.eK(n:Int):Dy:=canon false 1 n
theorem jD{n:Int}(h:n.natAbs<4294967296):(aP n).Valid:=jG (dD h)
theorem oC{x:Iv}(hx:x.Valid):(fH x).Valid:=by
 unfold fH;cases hxa:x.all
 .have he:=hx.ends
  have hm:=tz he.1 he.2;simp only[Bool.false_eq_true,if_false];refine .inr ⟨rfl,lE hm,hm,?_⟩;show aC (aJ (dj x)) (dj x)<=0;rw[eG,fD];obtain⟨a1,a2,_⟩:=nJ hx.q;have:=hx.q
  grind
 .exact hx
theorem RF{d:Dy}{k:Int}(h:oc d k=0):iu d k=canon d.neg d.m (d.e+k):=by
 unfold oc at h;unfold iu;split at h
 .rename_i h1;rw[if_pos h1]
 .cases h
theorem mQ{d:Dy}{k:Int}(h:oc d k=0):(iu d k).q=d.q*P2 k:=by
 rw[RF h,fN,eN d,fG];cases d.neg<;>simp<;>grind
theorem uw{x:Iv}(hx:x.Valid)(k:Int):(cX x k).Valid:=by
 unfold cX;split
 .exact cz
 .unfold ck
  split
  .exact cz
  .rename_i h
   refine .inr ⟨rfl,Fw _ _,Fw _ _,?_⟩;rw[eG,mQ (by omega),mQ (by omega),jC];exact hx.q
theorem yJ{x:Iv}{r:Rat}(h:x.has r)(k:Int):(cX x k).has (r*P2 k):=by
 unfold cX;split
 .exact .inl rfl
 .rename_i ha
  unfold ck;split
  .exact .inl rfl
  .obtain ⟨h1,h2⟩:=h.ends (by simpa using ha)
   refine .inr ⟨?_,?_⟩
   .show (iu x.lo k).q<=_
    rw[mQ (by omega),jC];exact h1
   .show _<=(iu x.hi k).q
    rw[mQ (by omega),jC];exact h2
open Go.RowKit Fp Pu
theorem KK(k:Nat)(w:World)(h0:0<k)(hn:k<4294967296)(hTb:Tb w) :
  Calls Tryz.prog 113 #[.int .i64 (-(k:Int))] w (kn w (canon true k 0)):=by
 have hd:(k:Int)/4294967296=0:=by omega
 have hlt:(-(k:Int))<0:=by omega
 have hdl:decide ((-(k:Int))<0)=true:=decide_eq_true hlt;have hu:IntKind.u64.wrap (-(k:Int))=18446744073709551616-k:=by rw[IntKind.wrap_u64];omega
 have hs:IntKind.u64.wrap (-(18446744073709551616-(k:Int)))=k:=by rw[IntKind.wrap_u64];omega
 have h32:IntKind.u32.wrap (k:Int)=k:=by rw[IntKind.wrap_u32];omega
 have ht:(av [k,0]).length<=256:=by have:=eC [k,0];unfold cP at this;simp at this;omega
 have HC:=Lib.hid (fun(A:Option Addr) c w (h:Sl w A c [k,0]) (hT:Tb w)=>sM true A c [k,0] 0 w h (by simp) ht (by decide) (by decide) hT);have hv:val [k,0]=k:=by simp
 rw[hv]at HC;clear hv ht;generalize canon true k 0=d at *
 generalize hN:(-(k:Int))=N at *
 go_enter Tryz.func113,Tryz.ntmps113;go_wp2_with fail;refine(HC.out _ _ _ (Sl.two _ _ (by simp) _ _ k 0 rfl rfl hn (by decide)) (hTb.below (by first|exact(Ext.alloc _ _).trans (Ext.alloc _ _)|exact Ext.alloc _ _))).mono ?_;rintro r w1 ⟨A1,c1,rfl,hs1,hb1⟩;have hb0:Ext (w.alloc (.cells #[.bool false,.slice none 0 0,.int .i64 0] 31)) w1:=(Ext.alloc _ _).trans hb1
 have bx:=(aK.new w false none 0 0 0).ext hb0;have b0:=bx.c0;have b1:=bx.c1;have b2:=bx.c2;have f0:=bx.fr 0;have f1:=bx.fr 1;have f2:=bx.fr 2;go_wp2;exact iR rfl rfl rfl (bx.set _ _ _ _ _) rfl (bx.fF hs1 _ _ _ _ _) (aK.fh ((Ext.alloc _ _).trans hb0) (Nat.le_refl _) _ _ _ _ _)
theorem dB(n:Int)(h:n.natAbs<4294967296):ae 113 [iP n] (ag (ay n)):=by
 by_cases h0:0<=n
 .obtain ⟨k,rfl⟩:=Int.eq_ofNat_of_zero_le h0
  exact vj k (by omega)
 .obtain ⟨k,rfl⟩:∃ k:Nat,n = -(k:Int):=⟨n.natAbs,by omega⟩
  rw[CO k (by omega)];refine⟨Tryz.call113,fun w B vs hK hB hr=>?_⟩;obtain⟨v1,vs,rfl,h1,hr⟩:=hr.cL;obtain rfl:=hr.fB;obtain rfl:=aw.bR h1;exact(KK k w (by omega) (by omega) hK).mono fun e w' h=>rd B w e w' hB h
theorem RC(d:Dy)(k:Int):bH (canon d.neg d.m (d.e+k))=iu d k:=by unfold bH iu;split<;>simp_all
theorem RE(d:Dy)(k:Int):cQ (canon d.neg d.m (d.e+k))=oc d k:=by unfold cQ oc;split<;>simp_all
open Go.RowKit Fp Pu
def aA(f:Nat->Rat):Nat->Rat
 | 0=>0
 | n+1=>aA f n+f n
theorem eZ{f g:Nat->Rat}:∀ n,(∀ i,i<n->f i=g i)->aA f n=aA g n
 | 0,_=>rfl
 | n+1,h=>by rw[aA,aA,eZ n (fun i hi=>h i (by omega)),h n (by omega)]
theorem od{f g:Nat->Rat}:∀ n,(∀ i,i<n->f i<=g i)->aA f n<=aA g n
 | 0,_=>Rat.le_refl
 | n+1,h=>by
  have h1:=od n (fun i hi=>h i (by omega));have h2:=h n (by omega);rw[aA,aA];grind
theorem oe{f:Nat->Rat}(n:Nat)(h:∀ i,i<n->0<=f i):0<=aA f n:=by
 induction n with
 | zero=>exact Rat.le_refl
 | succ n ih =>
  have h1:=ih (fun i hi=>h i (by omega));have h2:=h n (by omega);rw[aA];grind
theorem mV(f:Nat->Rat)(c:Rat):∀ n,aA (fun i=>c*f i) n=c*aA f n
 | 0=>by simp[aA]
 | n+1=>by rw[aA,aA,mV f c n];grind
theorem pI(f:Nat->Rat)(c:Rat):∀ n,aA (fun i=>f i*c) n=aA f n*c
 | 0=>by simp[aA]
 | n+1=>by rw[aA,aA,pI f c n];grind
theorem rD(f g:Nat->Rat):∀ n,aA (fun i=>f i+g i) n=aA f n+aA g n
 | 0=>by simp only[aA];grind
 | n+1=>by rw[aA,aA,aA,rD f g n];grind
theorem rE(f:Nat->Nat->Rat)(m:Nat):∀ n,aA (fun i=>aA (fun j=>f i j) m) n=aA (fun j=>aA (fun i=>f i j) n) m
 | 0=>by
  have:∀ m,aA (fun _=>(0:Rat)) m=0:=by
   intro m
   induction m with
   | zero=>rfl
   | succ m ih=>rw[aA,ih];grind
  exact(this m).symm
 | n+1=>by
  rw[aA,rE f m n,<-rD];rfl
theorem F6(f:Nat->Rat):∀ n,aA f (n+1)=f 0+aA (fun i=>f (i+1)) n
 | 0=>by simp only[aA];grind
 | n+1=>by rw[aA,F6 f n,aA];grind
def aD(x:Rat):Rat:=if 0<=x then x else -x
theorem cJ(x:Rat):0<=aD x/\x<=aD x /\ -x<=aD x/\(aD x=x/\0<=x\/aD x = -x/\x<=0):=by unfold aD;split<;>grind
theorem jN{x b:Rat}(h1:x<=b)(h2:-x<=b):aD x<=b:=by unfold aD;split<;>grind
theorem sc(x y:Rat):aD (x+y)<=aD x+aD y:=by
 obtain⟨a1,a2,a3,_⟩:=cJ x;obtain⟨b1,b2,b3,_⟩:=cJ y;exact jN (by grind) (by grind)
theorem kp(x y:Rat):aD (x*y)=aD x*aD y:=by
 obtain⟨_,_,_,a⟩:=cJ x;obtain⟨_,_,_,b⟩:=cJ y;obtain⟨c1,_,_,c⟩:=cJ (x*y);rcases a with⟨e1,h1⟩|⟨e1,h1⟩<;>rcases b with⟨e2,h2⟩|⟨e2,h2⟩<;>rw[e1,e2]
 .have:=Rat.mul_nonneg h1 h2;grind
 .have:=Rat.mul_nonneg h1 (show 0 <= -y by grind);grind
 .have:=Rat.mul_nonneg (show 0 <= -x by grind) h2;grind
 .have:=Rat.mul_nonneg (show 0 <= -x by grind) (show 0 <= -y by grind);grind
theorem ot(f:Nat->Rat):∀ n,aD (aA f n)<=aA (fun i=>aD (f i)) n
 | 0=>by simp[aA,aD]
 | n+1=>by
  have h1:=ot f n;have h2:=sc (aA f n) (f n);rw[aA,aA];grind
theorem Aa:aD 0=0:=rfl
abbrev QM:=Nat->Nat->Rat
def fg(n:Nat)(A B:QM):QM:=fun i j=>aA (fun q=>A i q*B q j) n
def kC:QM:=fun i j=>if i=j then 1 else 0
def TQ(n:Nat)(M:QM)(t:Rat):Nat->QM
 | 0=>kC
 | j+1=>fun i l=>t/((j+1:Nat):Rat)*fg n (TQ n M t j) M i l
def SQ(n:Nat)(M:QM)(t:Rat):Nat->QM
 | 0=>kC
 | j+1=>fun i l=>SQ n M t j i l+TQ n M t (j+1) i l
theorem Ed(j:Nat):(aP ((j:Nat):Int)).has ((j:Nat):Rat):=by have:=lF ((j:Nat):Int);rwa[Rat.intCast_natCast]at this
section
variable {m:List (List Iv)} {h:Iv} {M:QM} {t:Rat} {n p:Nat}
def mf(n:Nat)(A:QM)(b:Rat):Prop:=∀ i,i<n->aA (fun l=>aD (A i l)) n<=b
theorem Rn{A B:QM}{a b:Rat}(_h0:0<=a)(hb:0<=b)(h1:mf n A a)(h2:mf n B b):mf n (fg n A B) (a*b):=by
 intro i hi;have e1:aA (fun l=>aD (fg n A B i l)) n<=aA (fun l=>aA (fun q=>aD (A i q)*aD (B q l)) n) n :=
  od n fun l _=>by
   have:=ot (fun q=>A i q*B q l) n;rw[show(fun q=>aD (A i q*B q l))=fun q=>aD (A i q)*aD (B q l)from funext fun q=>kp _ _]at this;exact this
 rw[rE]at e1;have e2:aA (fun q=>aA (fun l=>aD (A i q)*aD (B q l)) n) n<=aA (fun q=>aD (A i q)*b) n :=
  od n fun q hq=>by
   rw[mV];exact Rat.mul_le_mul_of_nonneg_left (h2 q hq) (cJ _).1
 rw[pI]at e2;exact Rat.le_trans e1 (Rat.le_trans e2 (Rat.mul_le_mul_of_nonneg_right (h1 i hi) hb))
def eQ(c:Rat):Nat->Rat
 | 0=>1
 | j+1=>eQ c j*(c/((j+1:Nat):Rat))
theorem mF(j:Nat):(0:Rat)<((j+1:Nat):Rat):=Rat.natCast_pos.2 (by omega)
theorem BL{a b:Rat}(h1:0<=a)(h2:0<b):0<=a/b:=by
 rw[Rat.div_def];exact Rat.mul_nonneg h1 (Rat.le_of_lt (Rat.inv_pos.2 h2))
theorem jo{c:Rat}(h:0<=c):∀ j,0<=eQ c j
 | 0=>by simp only[eQ];decide
 | j+1=>Rat.mul_nonneg (jo h j) (BL h (mF j))
theorem Sc(n i:Nat):aA (fun l=>aD (kC i l)) n<=1/\(n<=i->aA (fun l=>aD (kC i l)) n=0):=by
 induction n with
 | zero=>exact⟨by simp only[aA];grind,fun _=>rfl⟩
 | succ n ih =>
  have e1:aD 1=1:=by decide
  simp only[aA,kC]at ih ⊢;by_cases h:i=n
  .have:=ih.2 (by omega)
   rw[this,if_pos h,e1];exact⟨by grind,fun h'=>absurd h' (by omega)⟩
  .rw [if_neg h,Aa,Rat.add_zero]
   exact⟨ih.1,fun h'=>ih.2 (by omega)⟩
theorem Rk{A:QM}{b:Rat}(h:mf n A b){i l:Nat}(hi:i<n)(hl:l<n):aD (A i l)<=b:=by
 have h1:=h i hi;have:∀ m,l<m->aD (A i l)<=aA (fun l=>aD (A i l)) m:=by
  intro m hm
  induction m with
  | zero=>omega
  | succ m ih =>
   rw[aA];have h0:=oe m (f:=fun l=>aD (A i l)) fun i _=>(cJ _).1
   have h2:=(cJ (A i m)).1;by_cases hq:l=m
   .subst hq;grind
   .have:=ih (by omega);grind
 exact Rat.le_trans (this n hl) h1
end
open Go.RowKit Fp Pu
theorem uE(g:Nat->Nat->Rat):∀ m,aA (fun j=>aA (g j) (m-j)) m=aA (fun s=>aA (fun j=>g j (s-j)) (s+1)) m
 | 0=>rfl
 | m+1=>by
  have ih:=uE g m;have e1:aA (fun j=>aA (g j) (m+1-j)) m=aA (fun j=>aA (g j) (m-j)+g j (m-j)) m :=
   eZ m fun j hj=>by rw[show m+1-j=m-j+1 by omega];rfl
  have h1:aA (g m) (m+1-m)=g m 0:=by
   rw[show m+1-m=0+1 by omega];simp only[aA];grind
  have h2:aA (fun j=>g j (m-j)) (m+1)=aA (fun j=>g j (m-j)) m+g m (m-m):=rfl;show aA (fun j=>aA (g j) (m+1-j)) m+aA (g m) (m+1-m)=aA (fun s=>aA (fun j=>g j (s-j)) (s+1)) m+aA (fun j=>g j (m-j)) (m+1);rw[e1,rD,h1,h2,ih,Nat.sub_self]
  grind
theorem rF{f:Nat->Rat}(h:∀ i,0<=f i){m k:Nat}(hk:m<=k):aA f m<=aA f k:=by
 induction k with
 | zero =>
  have:m=0:=by omega
  rw[this];exact Rat.le_refl
 | succ k ih =>
  by_cases hm:m=k+1
  .rw [hm];exact Rat.le_refl
  .have:=ih (by omega)
   have:=h k;rw[aA];grind
theorem pJ(f:Nat->Rat)(m:Nat):∀ d,aA f (m+d)=aA f m+aA (fun i=>f (m+i)) d
 | 0=>by simp only[aA,Nat.add_zero];grind
 | d+1=>by
  show aA f (m+d)+f (m+d)=_;rw[pJ f m d,aA];grind
theorem sP(c:Rat)(j:Nat):eQ c (j+1)*((j+1:Nat):Rat)=c*eQ c j:=by
 have h:c/((j+1:Nat):Rat)*((j+1:Nat):Rat)=c:=Rat.div_mul_cancel (by have:=mF j;grind);simp only[eQ];grind
theorem sx(a b:Rat):∀ s,aA (fun j=>eQ b j*eQ a (s-j)) (s+1)=eQ (a+b) s
 | 0=>by
  show 0+eQ b 0*eQ a 0=1;simp only[eQ];grind
 | s+1=>by
  have ih:=sx a b s;have hp:=mF s;have key:aA (fun j=>eQ b j*eQ a (s+1-j)) (s+2)*((s+1:Nat):Rat)=(a+b)*eQ (a+b) s:=by
   have e0:aA (fun j=>eQ b j*eQ a (s+1-j)) (s+2)*((s+1:Nat):Rat)=aA (fun j=>(j:Rat)*(eQ b j*eQ a (s+1-j))+eQ b j*(((s+1-j:Nat):Rat)*eQ a (s+1-j))) (s+2):=by
    rw[<-pI];refine eZ _ fun j hj=>?_
    have:((s+1:Nat):Rat)=(j:Rat)+((s+1-j:Nat):Rat):=by rw[<-Rat.natCast_add];congr 1;omega
    rw[this];grind
   rw[e0,rD];have e1:aA (fun j=>(j:Rat)*(eQ b j*eQ a (s+1-j))) (s+2)=b*eQ (a+b) s:=by
    rw[F6,<-ih,<-mV];have z:(((0:Nat):Rat))=0:=rfl;rw[z,Rat.zero_mul,Rat.zero_add];refine eZ _ fun j hj=>?_
    have h1:=sP b j;rw[show s+1-(j+1)=s-j by omega]
    grind
   have e2:aA (fun j=>eQ b j*(((s+1-j:Nat):Rat)*eQ a (s+1-j))) (s+2)=a*eQ (a+b) s:=by
    rw[show s+2=(s+1)+1 by omega,aA,Nat.sub_self,<-ih,<-mV];have z:(((0:Nat):Rat))=0:=rfl;rw[z,Rat.zero_mul,Rat.mul_zero,Rat.add_zero];refine eZ _ fun j hj=>?_
    have h1:=sP a (s-j);rw[show s+1-j=s-j+1 by omega]
    grind
   rw[e1,e2];grind
  have h2:=sP (a+b) s;have h3:aA (fun j=>eQ b j*eQ a (s+1-j)) (s+2)*((s+1:Nat):Rat)=eQ (a+b) (s+1)*((s+1:Nat):Rat):=by rw[key,h2]
  exact Rat.le_antisymm (Rat.le_of_mul_le_mul_right (by rw[h3];exact Rat.le_refl) hp) (Rat.le_of_mul_le_mul_right (by rw[h3];exact Rat.le_refl) hp)
theorem qo(c:Rat):∀ j,aD (eQ c j)=eQ (aD c) j
 | 0=>by simp only[eQ];decide
 | j+1=>by
  simp only[eQ];rw[kp,qo c j];congr 1;rw[Rat.div_def,Rat.div_def,kp];congr 1;have:=Rat.inv_pos.2 (mF j);unfold aD;rw[if_pos (Rat.le_of_lt this)]
def jb(v:Rat):Nat->Rat
 | 0=>1
 | j+1=>jb v j*v
theorem Eu(v:Rat)(i:Nat):∀ j,jb v (i+j)=jb v i*jb v j
 | 0=>by simp only[jb,Nat.add_zero];grind
 | j+1=>by
  show jb v (i+j)*v=_;rw[Eu v i j,jb];grind
theorem Ev{v:Rat}(h:0<=v):∀ j,0<=jb v j
 | 0=>by simp only[jb];decide
 | j+1=>Rat.mul_nonneg (Ev h j) h
theorem vZ(c v:Rat):∀ j,eQ (c*v) j=eQ c j*jb v j
 | 0=>by simp only[eQ,jb];grind
 | j+1=>by
  simp only[eQ,jb];rw[vZ c v j];simp only[Rat.div_def];grind
theorem Ak(q:Rat):∃ n:Nat,q<=(n:Rat):=by
 refine⟨q.ceil.toNat,?_⟩;have h1:q<=(q.ceil:Rat):=Rat.le_ceil;have h2:((q.ceil:Int):Rat)<=((q.ceil.toNat:Nat):Rat):=by
  rw[<-Rat.intCast_natCast,Rat.intCast_le_intCast];omega
 exact Rat.le_trans h1 h2
theorem y5{z:Rat}{J:Nat}(hz:0<=z)(hJ:z*2<=(J:Rat)){m:Nat}(hm:J<=m):eQ z (m+1)*2<=eQ z m:=by
 have h0:=jo hz m;have h1:=sP z m;have hp:=mF m;have hJm:z*2<=((m+1:Nat):Rat):=Rat.le_trans hJ (Rat.natCast_le_natCast.2 (by omega));apply Rat.le_of_mul_le_mul_right (c:=((m+1:Nat):Rat)) _ hp;have h2:=Rat.mul_le_mul_of_nonneg_left hJm h0
 grind
theorem y6{z:Rat}{J:Nat}(hz:0<=z)(hJ:z*2<=(J:Rat)){m:Nat}(hm:J<=m):∀ d,aA (fun i=>eQ z (m+i)) d+eQ z (m+d)*2<=eQ z m*2
 | 0=>by simp only[aA,Nat.add_zero];grind
 | d+1=>by
  have ih:=y6 hz hJ hm d;have h1:=y5 hz hJ (show J<=m+d by omega);rw[aA,show m+(d+1)=m+d+1 by omega]
  grind
theorem Gb{z:Rat}{J:Nat}(hz:0<=z)(hJ:z*2<=(J:Rat)):∀ r:Nat,eQ z (J+r)*((2^r:Nat):Rat)<=eQ z J
 | 0=>by simp
 | r+1=>by
  have ih:=Gb hz hJ r;have h1:=y5 hz hJ (show J<=J+r by omega);have hp:(0:Rat)<=((2^r:Nat):Rat):=Rat.natCast_nonneg;have h2:=Rat.mul_le_mul_of_nonneg_right h1 hp;rw[show(2^(r+1):Nat)=2^r*2 from Nat.pow_succ _ _,Rat.natCast_mul,show J+(r+1)=J+r+1 by omega];have e:((2:Nat):Rat)=2:=rfl;rw[e];grind
theorem Gc{z ε:Rat}(hz:0<=z)(hε:0<ε):∃ m0,∀ m,m0<=m->∀ d,aA (fun i=>eQ z (m+i)) d<=ε:=by
 obtain⟨J,hJ⟩:=Ak (z*2);obtain⟨r,hr⟩:=Ak (eQ z J*2/ε);refine⟨J+r,fun m hm d=>?_⟩;obtain⟨t,rfl⟩:∃ t,m=J+t:=⟨m-J,by omega⟩
 have h1:=y6 hz hJ (show J<=J+t by omega) d;have h2:=Gb hz hJ t;have h3:=jo hz (J+t+d);have h4:=jo hz (J+t);have hrt:(r:Rat)<=((2^t:Nat):Rat):=Rat.natCast_le_natCast.2 (Nat.le_of_lt (Nat.lt_of_le_of_lt (show r<=t by omega) Nat.lt_two_pow_self));have h5:eQ z J*2<=ε*((2^t:Nat):Rat):=by
  have h6:eQ z J*2/ε*ε=eQ z J*2:=Rat.div_mul_cancel (by grind);have h7:=Rat.mul_le_mul_of_nonneg_right (Rat.le_trans hr hrt) (Rat.le_of_lt hε)
  grind
 have hp:(0:Rat)<((2^t:Nat):Rat):=Rat.natCast_pos.2 (Nat.pow_pos (by decide));have h8:eQ z (J+t)*2<=ε:=by
  apply Rat.le_of_mul_le_mul_right (c:=((2^t:Nat):Rat)) _ hp
  grind
 grind
def MP(n:Nat)(M:QM):Nat->QM
 | 0=>kC
 | j+1=>fg n (MP n M j) M
section
variable {n:Nat} {M:QM}
theorem u7(t:Rat):∀ j i l,TQ n M t j i l=eQ t j*MP n M j i l
 | 0,i,l=>by simp only[TQ,eQ,MP];grind
 | j+1,i,l=>by
  show t/((j+1:Nat):Rat)*aA (fun q=>TQ n M t j i q*M q l) n=eQ t j*(t/((j+1:Nat):Rat))*aA (fun q=>MP n M j i q*M q l) n;rw[eZ n fun q _=>show TQ n M t j i q*M q l=eQ t j*(MP n M j i q*M q l)by rw[u7 t j i q];grind,mV]
  grind
theorem pP(t:Rat)(i l:Nat):∀ N,SQ n M t N i l=aA (fun j=>eQ t j*MP n M j i l) (N+1)
 | 0=>by simp only[SQ,aA,eQ,MP];grind
 | N+1=>by
  show SQ n M t N i l+TQ n M t (N+1) i l=_;rw[pP t i l N,u7];rfl
theorem OT(A:QM)(i:Nat){l:Nat}(hl:l<n):fg n A kC i l=A i l:=by
 have:∀ m,aA (fun q=>A i q*kC q l) m=if l<m then A i l else 0:=by
  intro m
  induction m with
  | zero=>simp[aA]
  | succ m ih =>
   rw[aA,ih];unfold kC;by_cases h1:l<m
   .rw [if_pos h1,if_neg (show ¬m=l by omega),if_pos (show l<m+1 by omega)];grind
   .by_cases h2:m=l
    .subst h2;rw[if_neg h1,if_pos rfl,if_pos (show m<m+1 by omega)];grind
    .rw [if_neg h1,if_neg h2,if_neg (show ¬l<m+1 by omega)];grind
 unfold fg;rw[this,if_pos hl]
theorem OS(A B C:QM)(i l:Nat):fg n A (fg n B C) i l=fg n (fg n A B) C i l:=by
 unfold fg;have e1:∀ q,A i q*aA (fun r=>B q r*C r l) n=aA (fun r=>A i q*(B q r*C r l)) n:=fun q=>(mV _ _ n).symm
 have e2:∀ r,aA (fun q=>A i q*B q r) n*C r l=aA (fun q=>A i q*B q r*C r l) n:=fun r=>(pI _ _ n).symm
 rw[eZ n fun q _=>e1 q,eZ (f:=fun q=>aA (fun q_1=>A i q_1*B q_1 q) n*C q l) n fun r _=>e2 r,rE];exact eZ n fun r _=>eZ n fun q _=>by grind
theorem zP(j:Nat):∀ k i l,l<n->fg n (MP n M j) (MP n M k) i l=MP n M (j+k) i l
 | 0,i,l,hl=>OT _ i hl
 | k+1,i,l,hl=>by
  show fg n (MP n M j) (fg n (MP n M k) M) i l=fg n (MP n M (j+k)) M i l;rw[OS];exact eZ n fun q hq=>by rw[zP j k i q hq]
theorem zQ{v:Rat}(hv:0<=v)(h:mf n M v):∀ j,mf n (MP n M j) (jb v j)
 | 0=>fun i _=>(Sc n i).1
 | j+1=>Rn (Ev hv j) hv (zQ hv h j) h
theorem Rl(n:Nat)(M:QM):∃ v,0<=v/\mf n M v:=by
 refine⟨aA (fun i=>aA (fun l=>aD (M i l)) n) n,oe n fun i _=>oe n fun l _=>(cJ _).1,fun i hi=>?_⟩;have:∀ m,i<m->aA (fun l=>aD (M i l)) n<=aA (fun i=>aA (fun l=>aD (M i l)) n) m:=by
  intro m hm
  induction m with
  | zero=>omega
  | succ m ih =>
   rw[aA];have h0:0<=aA (fun l=>aD (M m l)) n:=oe n fun l _=>(cJ _).1
   have h1:0<=aA (fun i=>aA (fun l=>aD (M i l)) n) m:=oe m fun i _=>oe n fun l _=>(cJ _).1
   by_cases hq:i=m
   .subst hq;grind
   .have:=ih (by omega);grind
 exact this n hi
theorem PL(a b:Rat)(N:Nat)(i:Nat){l:Nat}(hl:l<n):fg n (SQ n M b N) (SQ n M a N) i l=aA (fun j=>aA (fun k=>eQ b j*eQ a k*MP n M (j+k) i l) (N+1)) (N+1):=by
 unfold fg;have e1:∀ q,SQ n M b N i q*SQ n M a N q l=aA (fun j=>aA (fun k=>eQ b j*eQ a k*(MP n M j i q*MP n M k q l)) (N+1)) (N+1):=by
  intro q;rw[pP,pP,<-pI];refine eZ _ fun j _=>?_
  rw[<-mV];exact eZ _ fun k _=>by grind
 rw[eZ n fun q _=>e1 q,rE];refine eZ _ fun j _=>?_
 rw[rE];refine eZ _ fun k _=>?_
 rw[<-zP j k i l hl,mV];rfl
theorem SO(a b:Rat)(N:Nat)(i l:Nat):aA (fun j=>aA (fun k=>eQ b j*eQ a k*MP n M (j+k) i l) (N+1-j)) (N+1)=SQ n M (a+b) N i l:=by
 rw[uE (fun j k=>eQ b j*eQ a k*MP n M (j+k) i l),pP];refine eZ _ fun s _=>?_
 rw[<-sx,<-pI];exact eZ _ fun j hj=>by rw[show j+(s-j)=s by omega]
theorem FV(g:Nat->Nat->Rat)(m:Nat):aA (fun j=>aA (g j) m) m=aA (fun j=>aA (g j) (m-j)) m+aA (fun j=>aA (fun k=>g j (m-j+k)) j) m:=by
 rw[<-rD];refine eZ _ fun j hj=>?_
 rw[<-pJ,show m-j+j=m by omega]
theorem MN{v:Rat}(hv:0<=v)(h:mf n M v)(a b:Rat)(N:Nat){i l:Nat}(hi:i<n)(hl:l<n) :
  aD (fg n (SQ n M b N) (SQ n M a N) i l-SQ n M (a+b) N i l)<=aA (fun s=>eQ (aD a*v+aD b*v) (N+1+s)) (N+1):=by
 have hx:0<=aD a*v:=Rat.mul_nonneg (cJ a).1 hv;have hy:0<=aD b*v:=Rat.mul_nonneg (cJ b).1 hv;have e1:fg n (SQ n M b N) (SQ n M a N) i l=SQ n M (a+b) N i l+aA (fun j=>aA (fun k=>eQ b j*eQ a (N+1-j+k)*MP n M (j+(N+1-j+k)) i l) j) (N+1):=by
  have:=FV (fun j k=>eQ b j*eQ a k*MP n M (j+k) i l) (N+1);rw[SO,<-PL a b N i hl]at this;exact this
 have e2:fg n (SQ n M b N) (SQ n M a N) i l-SQ n M (a+b) N i l=aA (fun j=>aA (fun k=>eQ b j*eQ a (N+1-j+k)*MP n M (j+(N+1-j+k)) i l) j) (N+1):=by grind
 rw[e2];have e3:aD (aA (fun j=>aA (fun k=>eQ b j*eQ a (N+1-j+k)*MP n M (j+(N+1-j+k)) i l) j) (N+1))<=aA (fun j=>aA (fun k=>eQ (aD b*v) j*eQ (aD a*v) (N+1-j+k)) j) (N+1):=by
  refine Rat.le_trans (ot _ _) (od _ fun j _=>Rat.le_trans (ot _ _) (od _ fun k _=>?_));rw[kp,kp,qo,qo,vZ,vZ];have hr:=Rk (zQ hv h (j+(N+1-j+k))) hi hl;rw[Eu]at hr;have h1:=jo (cJ b).1 j;have h2:=jo (cJ a).1 (N+1-j+k);have h3:=Rat.mul_le_mul_of_nonneg_left hr (Rat.mul_nonneg h1 h2)
  grind
 refine Rat.le_trans e3 ?_;have q1:aA (fun j=>aA (fun k=>eQ (aD b*v) j*eQ (aD a*v) k) (N+1)) (N+1)=aA (fun j=>aA (fun k=>eQ (aD b*v) j*eQ (aD a*v) k) (N+1-j)) (N+1)+aA (fun j=>aA (fun k=>eQ (aD b*v) j*eQ (aD a*v) (N+1-j+k)) j) (N+1) :=
  FV (fun j k=>eQ (aD b*v) j*eQ (aD a*v) k) (N+1)
 have q2:aA (fun j=>aA (fun k=>eQ (aD b*v) j*eQ (aD a*v) k) (N+1-j)) (N+1)=aA (fun s=>eQ (aD a*v+aD b*v) s) (N+1):=by
  rw[uE (fun j k=>eQ (aD b*v) j*eQ (aD a*v) k)];exact eZ _ fun s _=>sx _ _ s
 have G0:∀ j k,0<=eQ (aD b*v) j*eQ (aD a*v) k:=fun j k=>Rat.mul_nonneg (jo hy j) (jo hx k)
 have q3:aA (fun j=>aA (fun k=>eQ (aD b*v) j*eQ (aD a*v) k) (N+1)) (N+1)<=aA (fun s=>eQ (aD a*v+aD b*v) s) (N+1+(N+1)):=by
  rw[<-eZ (f:=fun s=>aA (fun j=>eQ (aD b*v) j*eQ (aD a*v) (s-j)) (s+1)) _ fun s _=>sx _ _ s,<-uE (fun j k=>eQ (aD b*v) j*eQ (aD a*v) k)];refine Rat.le_trans (od _ fun j hj=>rF (fun k=>G0 j k) (show N+1<=N+1+(N+1)-j by omega)) ?_;exact rF (fun j=>oe _ fun k _=>G0 j k) (by omega)
 rw[pJ (fun s=>eQ (aD a*v+aD b*v) s) (N+1) (N+1),q1,q2]at q3;have cancel:∀ A B C:Rat,A+B<=A+C->B<=C:=by intro A B C h;grind
 exact cancel _ _ _ q3
theorem MO(n:Nat)(M:QM)(a b:Rat){ε:Rat}(hε:0<ε):∃ N0,∀ N,N0<=N->∀ i l,i<n->l<n->aD (fg n (SQ n M b N) (SQ n M a N) i l-SQ n M (a+b) N i l)<=ε:=by
 obtain⟨v,hv,h⟩:=Rl n M;have hz:0<=aD a*v+aD b*v:=by
  have hx:0<=aD a*v:=Rat.mul_nonneg (cJ a).1 hv;have hy:0<=aD b*v:=Rat.mul_nonneg (cJ b).1 hv
  grind
 obtain⟨m0,h0⟩:=Gc hz hε;exact⟨m0,fun N hN i l hi hl=>Rat.le_trans (MN hv h a b N hi hl) (h0 (N+1) (by omega) (N+1))⟩
theorem G8(N:Nat)(i l:Nat):SQ n M 0 N i l=kC i l:=by
 induction N with
 | zero=>rfl
 | succ N ih =>
  show SQ n M 0 N i l+TQ n M 0 (N+1) i l=_;rw[ih,u7];simp only[eQ,Rat.div_def];grind
end
open Go.RowKit Fp Pu
def dU(f:Nat->Rat)(X:Iv):Prop:=∀ ε,0<ε->∃ N0,∀ N,N0<=N->∃ r,X.has r/\aD (f N-r)<=ε
theorem dU.xK{f:Nat->Rat}{X:Iv}{k:Nat}(h:∀ N,k<=N->X.has (f N)):dU f X:=fun ε hε =>
 ⟨k,fun N hN=>⟨f N,h N hN,by rw[Rat.sub_self,Aa];exact Rat.le_of_lt hε⟩⟩
theorem dU.all{f:Nat->Rat}{X:Iv}(h:X.all=true):dU f X:=dU.xK (k:=0) fun _ _=>.inl h
theorem dU.shift{f g:Nat->Rat}{X:Iv}(h:dU f X)(k:∀ ε,0<ε->∃ N0,∀ N,N0<=N->aD (g N-f N)<=ε):dU g X:=fun ε hε=>by
 obtain⟨N1,h1⟩:=h (ε/2) (by grind);obtain⟨N2,h2⟩:=k (ε/2) (by grind);refine⟨max N1 N2,fun N hN=>?_⟩;obtain⟨r,hr,hd⟩:=h1 N (by omega);have hg:=h2 N (by omega);refine⟨r,hr,?_⟩;have:=sc (g N-f N) (f N-r);rw[show g N-f N+(f N-r)=g N-r by grind]at this
 grind
theorem dU.sq{f:Nat->Rat}{X:Iv}(hx:X.Valid)(h:dU f X){p:Nat}(hp:1<=p)(hp2:p<=4096):dU (fun N=>f N*f N) (aU X X p):=by
 cases xa:X.all
 .intro ε hε
  obtain⟨B,hB⟩:∃ B,B=aD X.lo.q+aD X.hi.q+1:=⟨_,rfl⟩
  have a0:=cJ X.lo.q;have b0:=cJ X.hi.q;have hB1:1<=B:=by grind
  have hBp:0<2*B:=by grind
  obtain⟨δ,hδ⟩:∃ δ,δ=min 1 (ε/(2*B)):=⟨_,rfl⟩
  have hεB:0<ε/(2*B):=by rw[Rat.div_def];exact Rat.mul_pos hε (Rat.inv_pos.2 hBp)
  have hδ0:0<δ:=by rw[hδ];grind
  have hδ1:δ<=1:=by rw[hδ];grind
  have hδ2:δ*(2*B)<=ε:=by
   have h1:δ<=ε/(2*B):=by rw[hδ];grind
   have h2:=Rat.mul_le_mul_of_nonneg_right h1 (Rat.le_of_lt hBp);rwa[Rat.div_mul_cancel (by grind)]at h2
  obtain⟨N0,h0⟩:=h δ hδ0;refine⟨N0,fun N hN=>?_⟩;obtain⟨r,hr,hd⟩:=h0 N hN;refine⟨r*r,tC hx hx hp hp2 hr hr,?_⟩;obtain⟨r1,r2⟩:=hr.ends xa;rw[show f N*f N-r*r=(f N-r)*(f N+r)by grind,kp];have hs:aD (f N+r)<=2*B:=by
   obtain⟨_,c2,c3,_⟩:=cJ (f N-r);exact jN (by grind) (by grind)
  have h3:=Rat.mul_le_mul_of_nonneg_left hs (cJ (f N-r)).1;have h4:=Rat.mul_le_mul_of_nonneg_right hd (Rat.le_of_lt hBp)
  grind
 .exact dU.all (by rw[qL p (.inl xa)];rfl)
def EQ(c:Rat)(N:Nat):Rat:=aA (eQ c) (N+1)
theorem Pk(j:Nat):MP 1 (fun _ _=>1) j 0 0=1:=by
 induction j with
 | zero=>rfl
 | succ j ih =>
  show aA (fun q=>MP 1 (fun _ _=>1) j 0 q*1) 1=1;simp only[aA];rw[ih];grind
theorem rX(c:Rat)(N:Nat):SQ 1 (fun _ _=>1) c N 0 0=EQ c N:=by
 rw[pP];exact eZ _ fun j _=>by rw[Pk];grind
theorem uW(a b:Rat){ε:Rat}(hε:0<ε):∃ N0,∀ N,N0<=N->aD (EQ (a+b) N-EQ a N*EQ b N)<=ε:=by
 obtain⟨N0,h0⟩:=MO 1 (fun _ _=>1) a b hε;refine⟨N0,fun N hN=>?_⟩;have:=h0 N hN 0 0 (by decide) (by decide);rw[show fg 1 (SQ 1 (fun _ _=>1) b N) (SQ 1 (fun _ _=>1) a N) 0 0=EQ a N*EQ b N by
  show aA (fun q=>SQ 1 (fun _ _=>1) b N 0 q*SQ 1 (fun _ _=>1) a N q 0) 1=_;simp only[aA];rw[rX,rX];grind,rX]at this
 obtain⟨_,a2,a3,_⟩:=cJ (EQ a N*EQ b N-EQ (a+b) N);exact jN (by grind) (by grind)
theorem GW(N:Nat):EQ 0 N=1:=by
 rw[<-rX,G8];rfl
theorem Ao{x:Iv}{r s:Rat}(hx:x.Valid)(h:x.has r)(hs:aD s<=aD r):(fH x).has s:=by
 unfold fH;cases xa:x.all
 .obtain ⟨h1,h2⟩:=h.ends xa
  obtain⟨m1,m2,_⟩:=nJ hx.q;obtain⟨_,a2,a3,a4⟩:=cJ r;obtain⟨_,b2,b3,_⟩:=cJ s;have hr:aD r<=(dj x).q:=by grind
  refine .inr ⟨?_,?_⟩
  .show (aJ (dj x)).q<=s
   rw[fD];grind
  .show s<=(dj x).q
   grind
 .rw [if_pos rfl];exact .inl xa
theorem pN{a b:Int}(h:a<=b):P2 a<=P2 b:=by
 rw[pO h];have h1:(1:Rat)<=((2^(b-a).toNat:Nat):Rat):=by
  have:=Rat.natCast_le_natCast.2 (Nat.one_le_two_pow (n:=(b-a).toNat));exact this
 have:=Rat.mul_le_mul_of_nonneg_right h1 (Rat.le_of_lt (df a))
 grind
open Go.RowKit Fp Pu
theorem two{i:Nat}(h:i<2):i=0\/i=1:=by omega
def iz(d:Rat)(f g:Nat->Rat):Prop:=∃ N0,∀ N,N0<=N->aD (f N-g N)<=d
theorem iz.mono{d e:Rat}{f g:Nat->Rat}(h:iz d f g)(k:d<=e):iz e f g:=by
 obtain⟨N0,h⟩:=h;exact⟨N0,fun N hN=>Rat.le_trans (h N hN) k⟩
open Go.RowKit Fp Pu
theorem iz.add{d e:Rat}{f g f' g':Nat->Rat}(h:iz d f g)(k:iz e f' g'):iz (d+e) (fun N=>f N+f' N) (fun N=>g N+g' N):=by
 obtain⟨N1,h1⟩:=h;obtain⟨N2,h2⟩:=k;refine⟨max N1 N2,fun N hN=>?_⟩;have:=sc (f N-g N) (f' N-g' N);have a:=h1 N (by omega);have b:=h2 N (by omega);rw[show f N+f' N-(g N+g' N)=f N-g N+(f' N-g' N)by grind]
 grind
theorem iz.trans{d e:Rat}{f g k:Nat->Rat}(h:iz d f g)(h':iz e g k):iz (d+e) f k:=by
 obtain⟨N1,h1⟩:=h;obtain⟨N2,h2⟩:=h';refine⟨max N1 N2,fun N hN=>?_⟩;have:=sc (f N-g N) (g N-k N);have a:=h1 N (by omega);have b:=h2 N (by omega);rw[show f N-k N=f N-g N+(g N-k N)by grind]
 grind
theorem iz.neg{d:Rat}{f g:Nat->Rat}(h:iz d f g):iz d (fun N=>-f N) (fun N=>-g N):=by
 obtain⟨N1,h1⟩:=h;refine⟨N1,fun N hN=>?_⟩;obtain⟨_,a2,a3,_⟩:=cJ (f N-g N);have:=h1 N hN;exact jN (by grind) (by grind)
open Go.RowKit Fp Pu
def GX:Dy:=⟨false,1014047155841371404857783918912611814895143950022408150448898879701903863171748812343190420115852101928445847465915947005,-398⟩
def GY:Dy:=⟨false,2028094311682742809715567837825223629790287900044816300897797759403807726343497624686380840231704203856891694931831894109,-399⟩
def HF:Iv:=⟨GX,GY,false⟩
theorem after{N:Nat}(h:100<=N):∃ d,N=100+d:=⟨N-100,by omega⟩
def zq(k:Int):Rat×Rat:=if k%4=0 then(1,0)else if k%4=1 then(0,1)else if k%4=2 then(-1,0)else(0,-1)
open Go.RowKit Fp Pu
def b7(r:Iv)(p:Nat):Nat->Iv
 | 0=>aP 1
 | j+1=>bU (aU (b7 r p j) r p) (aP ((j+1:Nat):Int)) p
def yL(r:Iv)(p j:Nat):Iv:=if 2<=j%4 then iL (b7 r p j)else b7 r p j
def ux(r:Iv)(p:Nat):Nat->Iv
 | 0=>aP 0
 | j+1=>if(j+1)%2=1 then bj (ux r p j) (yL r p (j+1)) p else ux r p j
theorem fC(n:Int):(eK n).q=P2 n:=by unfold eK;rw[fN];simp
theorem jJ{r:Iv}{p:Nat}(_hr:r.Valid)(hp1:8<=p)(hp2:p<=512):∀ j,(b7 r p j).Valid
 | 0=>nN 1 (by decide)
 | j+1=>jQ _ _ (by omega) (by omega)
theorem RJ{r:Iv}{p:Nat}(hr:r.Valid)(hp1:8<=p)(hp2:p<=512)(j:Nat):(yL r p j).Valid:=by
 unfold yL;split
 .exact tG (jJ hr hp1 hp2 j)
 .exact jJ hr hp1 hp2 j
theorem FA{r:Iv}{p:Nat}(hr:r.Valid)(hp1:8<=p)(hp2:p<=512):∀ j,(ux r p j).Valid
 | 0=>nN 0 (by decide)
 | j+1=>by
  unfold ux;split
  .exact gO (FA hr hp1 hp2 j) (RJ hr hp1 hp2 _) (by omega) (by omega)
  .exact FA hr hp1 hp2 j
theorem yM{r:Iv}{p:Nat}(hr:r.Valid)(hp1:8<=p)(hp2:p<=512){ρ:Rat}(h:r.has ρ):∀ j,j<4294967296->(b7 r p j).has (eQ ρ j)
 | 0,_=>lF 1
 | j+1,hj=>by
  have e:eQ ρ (j+1)=eQ ρ j*ρ/((j+1:Nat):Rat):=by simp only[eQ,Rat.div_def];grind
  rw[e];exact sK (iJ _ _ (by omega) (by omega)) (qU (j+1) hj) (by omega) (by omega) (tC (jJ hr hp1 hp2 j) hr (by omega) (by omega) (yM hr hp1 hp2 h j (by omega)) h) (Ed (j+1))
theorem FB{r:Iv}{p:Nat}:∀ {j d:Nat},(b7 r p (j+d)).all=false->(b7 r p j).all=false
 | _,0,h=>h
 | j,d+1,h=>by
  apply FB (d:=d);cases ha:(b7 r p (j+d)).all
  .rfl
  .exfalso
   have:b7 r p (j+(d+1))=an:=by
    show bU (aU (b7 r p (j+d)) r p) _ p=_;rw[qL p (.inl ha),ql p (.inl rfl)]
   rw[this]at h;cases h
open Go.RowKit Fp Pu
def eD(n:Int):Iv:=⟨aJ (eK n),eK n,false⟩
theorem oE{n:Int}{r:Rat}:(eD n).has r ↔ -P2 n<=r/\r<=P2 n:=by
 unfold Iv.has eD;simp only[Bool.false_eq_true,false_or];rw[fD,fC]
theorem mc{p:Nat}(hp:1<=p){n:Int}(h1:-1000<=n)(h2:n<=1000):G p (P2 n):=.inl ⟨1,n,by rw[kr];exact hp,by omega,by rw[kr];omega,by simp⟩
theorem pY{p:Nat}{S:Rat->Prop}{X:Iv}(h:lY p S X)(hp:1<=p){n:Int}(h1:-1000<=n)(h2:n<=1000)(hs:∀ r,S r -> -P2 n<=r/\r<=P2 n):Sub X (eD n):=by
 obtain⟨a,b,c⟩:=h.least _ _ (mc hp h1 h2).neg (mc hp h1 h2) hs;refine .inr ⟨a,?_,?_⟩
 .show (aJ (eK n)).q<=_
  rw[fD,fC];exact b
 .show _<=(eK n).q
  rw[fC];exact c
theorem Ab{a b u v:Rat}(h1:-u<=a)(h2:a<=u)(h3:-v<=b)(h4:b<=v):-(u*v)<=a*b/\a*b<=u*v:=by
 have ha:aD a<=u:=jN h2 (by grind);have hb:aD b<=v:=jN h4 (by grind);have hm:=kp a b;have h0:=(cJ b).1;have hu:0<=u:=Rat.le_trans (cJ a).1 ha;have m1:=Rat.mul_le_mul_of_nonneg_right ha h0;have m2:=Rat.mul_le_mul_of_nonneg_left hb hu;obtain⟨_,c2,c3,_⟩:=cJ (a*b);constructor<;>grind
theorem CH(j:Nat):P2 (-(j:Int))*P2 (-1)=P2 (-((j+1:Nat):Int)):=by
 rw[<-fG];congr 1;omega
theorem Kx{a u:Rat}{n:Nat}(h1:-u<=a)(h2:a<=u):-u<=a/((n+1:Nat):Rat)/\a/((n+1:Nat):Rat)<=u:=by
 have hp:=mF n;have h1n:(1:Rat)<=((n+1:Nat):Rat):=by
  have:=Rat.natCast_le_natCast (a:=1) (b:=n+1);exact this.2 (by omega)
 have e:=Rat.div_mul_cancel (a:=a) (b:=((n+1:Nat):Rat)) (by grind);have hu:0<=u:=by grind
 generalize a/((n+1:Nat):Rat)=x at *
 generalize ((n+1:Nat):Rat)=c at *
 constructor
 .apply Rat.not_lt.1
  intro hlt;have m:=Rat.mul_lt_mul_of_pos_right hlt hp;have m2:=Rat.mul_le_mul_of_nonneg_left h1n hu
  grind
 .apply Rat.not_lt.1
  intro hlt;have m:=Rat.mul_lt_mul_of_pos_right hlt hp;have m2:=Rat.mul_le_mul_of_nonneg_left h1n hu
  grind
theorem FD{y:Iv}(hy:y.Valid)(h:Sub y (eD (-1))){p:Nat}(hp1:8<=p)(hp2:p<=512):∀ j,j<=900->Sub (b7 y p j) (eD (-(j:Int)))
 | 0,_=>by
  have e:(aP 1).lo.q=1/\(aP 1).hi.q=1/\(aP 1).all=false:=Ec 1;refine .inr ⟨e.2.2,?_,?_⟩
  .show (aJ (eK _)).q<=_
   rw[fD,fC,show(b7 y p 0).lo.q=1 from e.1];decide +kernel
  .show _<=(eK _).q
   rw[fC,show(b7 y p 0).hi.q=1 from e.2.1];decide +kernel
 | j+1,hj=>by
  have ih:=FD hy h hp1 hp2 j (by omega);have vT:=jJ hy hp1 hp2 j;obtain⟨ta,_⟩:=ih.known rfl;obtain⟨ya,_⟩:=h.known rfl;have B:=xt vT hy ta ya (show 1<=p by omega) (by omega);have s1:Sub (aU (b7 y p j) y p) (eD (-((j+1:Nat):Int))):=pY B (by omega) (by omega) (by omega) (by
   rintro r ⟨a,b,ha,hb,rfl⟩;obtain⟨a1,a2⟩:=oE.1 (ih.has ha);obtain⟨b1,b2⟩:=oE.1 (h.has hb);rw[<-CH];exact Ab a1 a2 b1 b2)
  have vm:(aU (b7 y p j) y p).Valid:=iJ _ _ (by omega) (by omega);obtain⟨ma,_⟩:=s1.known rfl;have vn:=qU (j+1) (by omega);have hs:dw (aP ((j+1:Nat):Int))≠0:=by rw[Ph (by omega)];decide
  exact pY (sJ vm vn ma hs (show 1<=p by omega) (by omega)) (by omega) (by omega) (by omega) (by
   rintro r ⟨a,b,ha,hb,rfl⟩;obtain⟨a1,a2⟩:=oE.1 (s1.has ha);obtain⟨b1,b2⟩:=hb.ends rfl;have e:=Ec (j+1);rw[e.1]at b1;rw[e.2.1]at b2;rw[show b=((j+1:Nat):Rat)from Rat.le_antisymm b2 b1];exact Kx a1 a2)
def dY(x:Iv)(p:Nat):Bool:=x.all||(decide ((dj x).m=0)||decide ((dj x).top <= -(p:Int)))
theorem Gl{d:Dy}(hm:d.m≠0){n:Int}(h:aD d.q<=P2 n):d.top<=n+1:=by
 apply Classical.byContradiction;intro hlt;have hT:d.top=(aj d.m:Int)+d.e:=by unfold Dy.top;rw[if_neg hm]
 have hb:0<aj d.m:=jA.2 (by rw[Nat.pow_zero];omega);have h1:2^(aj d.m-1)<=d.m:=jA.1 (by omega);have h2:((2^(aj d.m-1):Nat):Rat)<=(d.m:Rat):=Rat.natCast_le_natCast.2 h1;have h3:=Rat.mul_le_mul_of_nonneg_right h2 (Rat.le_of_lt (df d.e));rw[<-kP,<-fG,show((aj d.m-1:Nat):Int)+d.e=d.top-1 by rw[hT];omega]at h3;have h4:aD d.q=(d.m:Rat)*P2 d.e:=by
  have h0:0<=(d.m:Rat)*P2 d.e:=Rat.mul_nonneg Rat.natCast_nonneg (Rat.le_of_lt (df _));rw[eN];unfold aD;cases d.neg
  .simp only[Bool.false_eq_true,if_false];rw[if_pos h0]
  .simp only[if_true]
   split<;>grind
 have h5:=pN (show n+1<=d.top-1 by omega);have h6:P2 (n+1)=P2 n*2:=by rw[fG];congr 1
 have:=df n
 grind
theorem Gi{x:Iv}(hx:x.Valid){p:Nat}(h:Sub x (eD (-((p+1:Nat):Int)))):dY x p=true:=by
 unfold dY;cases ha:x.all
 .by_cases hm:(dj x).m=0
  .rw [decide_eq_true hm];rfl
  .obtain ⟨_,k1,k2⟩:=h.known rfl
   obtain⟨m1,m2,m3⟩:=nJ hx.q;replace k1:(aJ (eK (-((p+1:Nat):Int)))).q<=x.lo.q:=k1;replace k2:x.hi.q<=(eK (-((p+1:Nat):Int))).q:=k2;rw[fD,fC]at k1;rw[fC]at k2;have hq:=hx.q;have hp0:=df (-((p+1:Nat):Int));generalize hu:P2 (-((p+1:Nat):Int))=u at *
   have hle:aD (dj x).q<=u:=jN (by rcases m3 with m3|m3<;>grind) (by rcases m3 with m3|m3<;>grind);have:=Gl hm (hu▸hle);rw[decide_eq_true (show(dj x).top <= -(p:Int)by omega)];simp
 .rfl
theorem FC{y:Iv}(h:y.all=true)(p:Nat):b7 y p 1=an:=by
 show bU (aU (aP 1) y p) _ p=_;rw[qL p (.inr h),ql p (.inl rfl)]
theorem Lu{y:Iv}(hy:y.Valid)(h:y.all=true\/Sub y (eD (-1))){p:Nat}(hp1:8<=p)(hp2:p<=512):∃ N,1<=N/\N<=1000/\(∀ x,1<=x->x<N->dY (b7 y p x) p=false)/\dY (b7 y p N) p=true:=by
 have ex:∃ x,x<900/\decide (1<=x/\dY (b7 y p x) p=true)=true:=by
  rcases h with h|h
  .exact ⟨1,by omega,decide_eq_true ⟨by omega,by rw[FC h];rfl⟩⟩
  .exact ⟨p+1,by omega,decide_eq_true ⟨by omega,Gi (jJ hy hp1 hp2 _) (FD hy h hp1 hp2 (p+1) (by omega))⟩⟩
 obtain⟨N,n1,n2,n3⟩:=gG (p:=fun x=>decide (1<=x/\dY (b7 y p x) p=true)) ex;have n2':=of_decide_eq_true n2;refine⟨N,n2'.1,by omega,fun x h1 h2=>?_,n2'.2⟩;have:=of_decide_eq_false (n3 x h2);cases hc:dY (b7 y p x) p
 .rfl
 .exact absurd ⟨h1,hc⟩ this
def iD(y:Iv)(p:Nat):Nat->Iv
 | 0=>aP 1
 | j+1=>bj (iD y p j) (b7 y p (j+1)) p
def lf(y:Iv)(p N:Nat):Iv:=bj (iD y p N) (fH (b7 y p N)) p
theorem oO{y:Iv}(hy:y.Valid){p:Nat}(hp1:8<=p)(hp2:p<=512):∀ j,(iD y p j).Valid
 | 0=>nN 1 (by decide)
 | j+1=>gO (oO hy hp1 hp2 j) (jJ hy hp1 hp2 _) (by omega) (by omega)
theorem Lt{y:Iv}(hy:y.Valid){p:Nat}(hp1:8<=p)(hp2:p<=512)(N:Nat):(lf y p N).Valid:=gO (oO hy hp1 hp2 N) (oC (jJ hy hp1 hp2 N)) (by omega) (by omega)
open Go.RowKit Fp Pu
def cr(x:Iv)(p:Nat):Iv:=if x.all then an else ck (bq x.lo p false) (bg x.lo p false) (bq x.hi p true) (bg x.hi p true)
def iS(a b:Iv):Iv:=if a.all||b.all then an else⟨a.lo,b.hi,false⟩
theorem pC{x:Iv}(hx:x.Valid){p:Nat}(hp:1<=p)(hp2:p<=4096):(cr x p).Valid:=by
 unfold cr;cases xa:x.all
 .obtain ⟨c1,c2⟩:=hx.kW
  simp only[Bool.false_eq_true,if_false];unfold ck;split
  .exact cz
  .rename_i he
   have A:=jY c1 hp hp2;have B:=jZ c2 hp hp2;refine .inr ⟨rfl,dX _ hp hp2 _,dX _ hp hp2 _,?_⟩;rw[eG];exact Rat.le_trans (A.1 (by omega)).2 (Rat.le_trans hx.q (B.1 (by omega)).2)
 .exact cz
theorem ru{x:Iv}(hx:x.Valid){p:Nat}(hp:1<=p)(hp2:p<=4096){r:Rat}(h:x.has r):(cr x p).has r:=by
 unfold cr;cases xa:x.all
 .obtain ⟨c1,c2⟩:=hx.kW
  obtain⟨h1,h2⟩:=h.ends xa;simp only[Bool.false_eq_true,if_false];unfold ck;split
  .exact .inl rfl
  .rename_i he
   have A:=jY c1 hp hp2;have B:=jZ c2 hp hp2;exact .inr ⟨Rat.le_trans (A.1 (by omega)).2 h1,Rat.le_trans h2 (B.1 (by omega)).2⟩
 .exact .inl rfl
theorem Ri{x:Iv}(hx:x.Valid){p:Nat}(hp:1<=p)(hp2:p<=4096){n:Int}(h1:-1000<=n)(h2:n<=1000)(h:Sub x (eD n)):Sub (cr x p) (eD n):=by
 obtain⟨xa,k1,k2⟩:=h.known rfl;replace k1:(aJ (eK n)).q<=x.lo.q:=k1;replace k2:x.hi.q<=(eK n).q:=k2;rw[fD,fC]at k1;rw[fC]at k2;obtain⟨c1,c2⟩:=hx.kW;have A:=(jY c1 hp hp2).2 _ (mc hp h1 h2).neg k1;have B:=(jZ c2 hp hp2).2 _ (mc hp h1 h2) k2;unfold cr ck;rw[xa];simp only[Bool.false_eq_true,if_false];rw[if_neg (by omega)];refine .inr ⟨rfl,?_,?_⟩
 .show (aJ (eK n)).q<=_
  rw[fD,fC];exact A.2
 .show _<=(eK n).q
  rw[fC];exact B.2
theorem NW{f g:Nat->Rat}{A B:Iv}(hA:dU f A)(hB:dU g B)(h:∀ ε,0<ε->∃ N0,∀ N,N0<=N->f N<=g N+ε)(aa:A.all=false)(ba:B.all=false):A.lo.q<=B.hi.q:=by
 apply Rat.not_lt.1;intro hlt;obtain⟨ε,hε⟩:∃ ε,ε=(A.lo.q-B.hi.q)/4:=⟨_,rfl⟩
 have h0:0<ε:=by rw[hε];grind
 obtain⟨N1,h1⟩:=hA ε h0;obtain⟨N2,h2⟩:=hB ε h0;obtain⟨N3,h3⟩:=h ε h0;obtain⟨r,hr,hd⟩:=h1 (max N1 (max N2 N3)) (by omega);obtain⟨s,hs,he⟩:=h2 (max N1 (max N2 N3)) (by omega);have h4:=h3 (max N1 (max N2 N3)) (by omega);obtain⟨r1,r2⟩:=hr.ends aa;obtain⟨s1,s2⟩:=hs.ends ba;obtain⟨_,a2,a3,_⟩:=cJ (f (max N1 (max N2 N3))-r);obtain⟨_,b2,b3,_⟩:=cJ (g (max N1 (max N2 N3))-s)
 grind
theorem GV{c:Rat}(h:0<=c)(N:Nat):1<=EQ c N:=by
 have:=rF (f:=eQ c) (fun i=>jo h i) (show 1<=N+1 by omega);have e:aA (eQ c) 1=1:=by show 0+1=1;grind
 unfold EQ;rw[e]at this;exact this
theorem GU(c:Rat){ε:Rat}(hε:0<ε):∃ N0,∀ N,N0<=N -> -ε<=EQ c N:=by
 obtain⟨N0,h0⟩:=uW (c/2) (c/2) hε;rw[show c/2+c/2=c by grind]at h0;refine⟨N0,fun N hN=>?_⟩;have h:=h0 N hN;have hs:0<=EQ (c/2) N*EQ (c/2) N:=by
  by_cases k:0<=EQ (c/2) N
  .exact Rat.mul_nonneg k k
  .have:=Rat.mul_nonneg (show 0 <= -EQ (c/2) N by grind) (show 0 <= -EQ (c/2) N by grind)
   grind
 obtain⟨_,a2,a3,_⟩:=cJ (EQ c N-EQ (c/2) N*EQ (c/2) N)
 grind
theorem GQ{c:Rat}(h:0<=c):∃ M:Rat,0<M/\∀ N,EQ c N<=M:=by
 obtain⟨m0,h0⟩:=Gc h (show(0:Rat)<1 by decide);have hs:0<=aA (eQ c) m0:=by
  have:=rF (f:=eQ c) (fun i=>jo h i) (Nat.zero_le m0);exact this
 refine⟨aA (eQ c) m0+1,by grind,fun N=>?_⟩;unfold EQ;by_cases hN:m0<=N+1
 .obtain ⟨d,hd⟩:∃ d,N+1=m0+d:=⟨N+1-m0,by omega⟩
  rw[hd,pJ];have:=h0 m0 (Nat.le_refl _) d
  grind
 .have:=rF (f:=eQ c) (fun i=>jo h i) (show N+1<=m0 by omega)
  grind
theorem GS{a b:Rat}(h:a<=b){ε:Rat}(hε:0<ε):∃ N0,∀ N,N0<=N->EQ a N<=EQ b N+ε:=by
 have hd:0<=b-a:=by grind
 obtain⟨N1,h1⟩:=uW a (b-a) (show 0<ε/2 by grind);rw[show a+(b-a)=b by grind]at h1;obtain⟨M,hM0,hM⟩:∃ M:Rat,0<M/\∀ N,EQ (b-a) N<=M:=GQ hd;obtain⟨N2,h2⟩:=GU a (show 0<ε/(2*M)by rw[Rat.div_def];exact Rat.mul_pos hε (Rat.inv_pos.2 (by grind)));refine⟨max N1 N2,fun N hN=>?_⟩;have k1:=h1 N (by omega);have k2:=h2 N (by omega);have e:ε/(2*M)*M=ε/2:=by
  have:=Rat.div_mul_cancel (a:=ε) (b:=2*M) (by grind)
  grind
 have k3:=GV hd N;have k4:=hM N;obtain⟨_,a2,a3,_⟩:=cJ (EQ b N-EQ a N*EQ (b-a) N);generalize EQ a N=x at *
 generalize EQ (b-a) N=y at *
 generalize EQ b N=z at *
 generalize ε/(2*M)=δ at *
 have m1:=Rat.mul_nonneg (show 0<=x+δ by grind) (show 0<=y-1 by grind);have hδ:0<=δ:=by
  apply Rat.not_lt.1;intro hlt;have:=Rat.mul_lt_mul_of_pos_right hlt hM0
  grind
 have m2:=Rat.mul_le_mul_of_nonneg_left (show y-1<=M by grind) hδ
 grind
open Go.RowKit Fp Pu
theorem Cf{y:Iv}{r:Rat}(hy:y.Valid)(h:y.has r){p:Nat}(hp1:8<=p)(hp2:p<=512):∀ j,j<4294967296->(iD y p j).has (EQ r j)
 | 0,_=>by
  have:EQ r 0=1:=by unfold EQ;simp only[aA,eQ];grind
  rw[this];exact lF 1
 | j+1,hj=>nc (oO hy hp1 hp2 j) (jJ hy hp1 hp2 (j+1)) (by omega) (by omega) (Cf hy h hp1 hp2 j (by omega)) (yM hy hp1 hp2 h (j+1) hj)
theorem Lp{y:Iv}(h:y.all=true){p N:Nat}(hN:1<=N):(lf y p N).all=true:=by
 have ht:(b7 y p N).all=true:=by
  cases hc:(b7 y p N).all
  .obtain ⟨d,rfl⟩:∃ d,N=1+d:=⟨N-1,by omega⟩
   have:=FB hc;rw[FC h]at this;cases this
  .rfl
 unfold lf;rw[se p (.inr (by unfold fH;rw[ht];simpa using ht))];rfl
theorem Lr{y:Iv}{r:Rat}(hy:y.Valid)(h:y.has r)(hr:aD r*2<=1){p:Nat}(hp1:8<=p)(hp2:p<=512){N:Nat}(hN:1<=N)(hN2:N<=1000)(M:Nat)(hM:N<=M):(lf y p N).has (EQ r M):=by
 obtain⟨d,rfl⟩:∃ d,M=N+d:=⟨M-N,by omega⟩
 have e1:EQ r (N+d)=EQ r N+aA (fun i=>eQ r (N+1+i)) d:=by
  unfold EQ;rw[show N+d+1=N+1+d by omega,pJ]
 have hz:=(cJ r).1;have t:=y6 hz (J:=1) (by exact hr) (show 1<=N+1 by omega) d;have p0:=jo hz (N+1+d);have b1:aD (aA (fun i=>eQ r (N+1+i)) d)<=aA (fun i=>eQ (aD r) (N+1+i)) d:=by
  have:=ot (fun i=>eQ r (N+1+i)) d;rwa[eZ d fun i _=>qo r (N+1+i)]at this
 have e3:eQ (aD r) (N+1)*2<=eQ (aD r) N:=y5 hz (J:=1) (by exact hr) (show 1<=N by omega);rw[e1];refine nc (oO hy hp1 hp2 N) (oC (jJ hy hp1 hp2 N)) (by omega) (by omega) (Cf hy h hp1 hp2 N (by omega)) (Ao (jJ hy hp1 hp2 N) (yM hy hp1 hp2 h N (by omega)) ?_);rw[qo];grind
theorem Ls{y:Iv}{r:Rat}(hy:y.Valid)(h:y.has r)(hb:y.all=true\/Sub y (eD (-1))){p:Nat}(hp1:8<=p)(hp2:p<=512){N:Nat}(hN:1<=N)(hN2:N<=1000):dU (EQ r) (lf y p N):=by
 rcases hb with hb|hb
 .exact dU.all (Lp hb hN)
 .refine dU.xK (k:=N) fun M hM=>Lr hy h ?_ hp1 hp2 hN hN2 M hM
  obtain⟨b1,b2⟩:=oE.1 (hb.has h);have e:P2 (-1)=1/2:=by decide +kernel
  rw[e]at b1 b2;have:=jN (x:=r) (b:=1/2) (by grind) (by grind)
  grind
def dR(x:Iv)(p:Nat):Iv:=if(bh x).all then an else ck (bq (jW (bh x).lo (bh x).lo) p false) (bg (jW (bh x).lo (bh x).lo) p false) (bq (jW (bh x).hi (bh x).hi) p true) (bg (jW (bh x).hi (bh x).hi) p true)
theorem z8{x:Iv}(xa:x.all=false):0<=(bh x).lo.q:=by
 unfold bh;rw[xa];show 0<=(dV x).q;unfold dV;split
 .rw [iq];exact Rat.le_refl
 .obtain ⟨_,_,m⟩:=nT (cB x.lo) (cB x.hi)
  rcases m with m|m<;>rw[m]
  .exact (lI x.lo).1
  .exact (lI x.hi).1
theorem mh(x:Iv):(bh x).all=x.all:=by unfold bh;cases h:x.all<;>simp[h,an]
theorem yS{x:Iv}(hx:x.Valid){p:Nat}(hp:1<=p)(hp2:p<=4096){r:Rat}(h:x.has r):(dR x p).has (r*r):=by
 unfold dR;rw[mh];cases xa:x.all
 .simp only[Bool.false_eq_true,if_false]
  obtain⟨s,hs,h0,e⟩:∃ s,(bh x).has s/\0<=s/\r*r=s*s:=by
   by_cases hr:0<=r
   .exact ⟨r,r8 hx h (.inl ⟨rfl,hr⟩),hr,rfl⟩
   .exact ⟨-r,r8 hx h (.inr ⟨rfl,by grind⟩),by grind,by grind⟩
  have hl:=z8 xa;have ya:(bh x).all=false:=by rw[mh];exact xa
  obtain⟨s1,s2⟩:=hs.ends ya;rw[e];unfold ck;split
  .exact .inl rfl
  .rename_i he
   have A:=jY (mn (bh x).lo (bh x).lo) hp hp2;have B:=jZ (mn (bh x).hi (bh x).hi) hp hp2;rw[pv]at A B;have a1:=(A.1 (by omega)).2;have b1:=(B.1 (by omega)).2;refine .inr ⟨?_,?_⟩
   .have m1:=Rat.mul_le_mul_of_nonneg_right s1 hl
    have m2:=Rat.mul_le_mul_of_nonneg_left s1 h0;show _<=s*s;exact Rat.le_trans a1 (Rat.le_trans m1 (by rw[Rat.mul_comm s];rw[Rat.mul_comm (bh x).lo.q s] ;exact m2))
   .have m1:=Rat.mul_le_mul_of_nonneg_right s2 h0
    have m2:=Rat.mul_le_mul_of_nonneg_left s2 (Rat.le_trans h0 s2);exact Rat.le_trans (Rat.le_trans m1 m2) b1
 .exact .inl rfl
theorem uB{x:Iv}(hx:x.Valid){p:Nat}(hp:1<=p)(hp2:p<=4096):(dR x p).Valid:=by
 cases xa:x.all
 .have h1:=yS hx hp hp2 hx.mA
  unfold dR at h1 ⊢;rw[mh,xa]at h1 ⊢;simp only[Bool.false_eq_true,if_false]at h1 ⊢;unfold ck at h1 ⊢;split
  .exact cz
  .rename_i he
   rw[if_neg he]at h1;obtain⟨h2,h3⟩:=h1.ends rfl;refine .inr ⟨rfl,dX _ hp hp2 _,dX _ hp hp2 _,?_⟩;rw[eG];exact Rat.le_trans h2 h3
 .unfold dR
  rw[mh,xa];exact cz
theorem dU.R7{f:Nat->Rat}{X:Iv}(hx:X.Valid)(h:dU f X){p:Nat}(hp:1<=p)(hp2:p<=4096):dU (fun N=>f N*f N) (dR X p):=by
 cases xa:X.all
 .intro ε hε
  obtain⟨B,hB⟩:∃ B,B=aD X.lo.q+aD X.hi.q+1:=⟨_,rfl⟩
  have a0:=cJ X.lo.q;have b0:=cJ X.hi.q;have hB1:1<=B:=by grind
  have hBp:0<2*B:=by grind
  obtain⟨δ,hδ⟩:∃ δ,δ=min 1 (ε/(2*B)):=⟨_,rfl⟩
  have hεB:0<ε/(2*B):=by rw[Rat.div_def];exact Rat.mul_pos hε (Rat.inv_pos.2 hBp)
  have hδ0:0<δ:=by rw[hδ];grind
  have hδ1:δ<=1:=by rw[hδ];grind
  have hδ2:δ*(2*B)<=ε:=by
   have h1:δ<=ε/(2*B):=by rw[hδ];grind
   have h2:=Rat.mul_le_mul_of_nonneg_right h1 (Rat.le_of_lt hBp);rwa[Rat.div_mul_cancel (by grind)]at h2
  obtain⟨N0,h0⟩:=h δ hδ0;refine⟨N0,fun N hN=>?_⟩;obtain⟨r,hr,hd⟩:=h0 N hN;refine⟨r*r,yS hx hp hp2 hr,?_⟩;obtain⟨r1,r2⟩:=hr.ends xa;rw[show f N*f N-r*r=(f N-r)*(f N+r)by grind,kp];have hs:aD (f N+r)<=2*B:=by
   obtain⟨_,c2,c3,_⟩:=cJ (f N-r);exact jN (by grind) (by grind)
  have h3:=Rat.mul_le_mul_of_nonneg_left hs (cJ (f N-r)).1;have h4:=Rat.mul_le_mul_of_nonneg_right hd (Rat.le_of_lt hBp)
  grind
 .exact dU.all (by unfold dR;rw[mh,xa];rfl)
theorem GR(r:Rat):∀ ε,0<ε->∃ N0,∀ N,N0<=N->aD (EQ r N-EQ (r*P2 (-1)) N*EQ (r*P2 (-1)) N)<=ε:=by
 intro ε hε;have e:r*P2 (-1)+r*P2 (-1)=r:=by
  have:P2 (-1)=1/2:=by decide +kernel
  rw[this];grind
 have:=uW (r*P2 (-1)) (r*P2 (-1)) hε;rwa[e]at this
theorem NV{r:Rat}{X:Iv}(hx:X.Valid)(h:dU (EQ (r*P2 (-1))) X){p:Nat}(hp:1<=p)(hp2:p<=4096):dU (EQ r) (dR X p):=(h.R7 hx hp hp2).shift (GR r)
theorem RG{y:Iv}{n:Int}(h:Sub y (eD n)):(cX y (-1)).all=true\/Sub (cX y (-1)) (eD (n-1)):=by
 obtain⟨ya,k1,k2⟩:=h.known rfl;replace k1:(aJ (eK n)).q<=y.lo.q:=k1;replace k2:y.hi.q<=(eK n).q:=k2;rw[fD,fC]at k1;rw[fC]at k2;unfold cX ck;rw[ya];simp only[Bool.false_eq_true,if_false];split
 .exact .inl rfl
 .rename_i he
  have e:P2 (n-1)=P2 n*P2 (-1):=by rw[<-fG];congr 1
  refine .inr (.inr ⟨rfl,?_,?_⟩)
  .show (aJ (eK (n-1))).q<=(iu y.lo (-1)).q
   rw[fD,fC,mQ (by omega),e,<-Rat.neg_mul,jC];exact k1
  .show (iu y.hi (-1)).q<=(eK (n-1)).q
   rw[fC,mQ (by omega),e,jC];exact k2
open Go.RowKit Fp Pu
def iB(z:Rat)(k:Nat):Rat:=dA z (2*k+1)/((2*k+1:Nat):Rat)
def AQ(z:Rat)(N:Nat):Rat:=aA (iB z) (N+1)
def dJ(z:Iv)(p:Nat):Nat->Iv
 | 0=>z
 | k+1=>aU (dJ z p k) (dR z p) p
def iW(z:Iv)(p:Nat):Nat->Iv
 | 0=>z
 | k+1=>bj (iW z p k) (bU (dJ z p (k+1)) (aP ((2*k+3:Nat):Int)) p) p
noncomputable def pf(z:Iv)(p N:Nat):Iv:=cX (bj (iW z p N) (fH (dJ z p N)) p) 1
theorem kA{z:Iv}(hz:z.Valid){p:Nat}(hp1:8<=p)(hp2:p<=512):∀ k,(dJ z p k).Valid
 | 0=>hz
 | _+1=>iJ _ _ (by omega) (by omega)
theorem nG{z:Iv}(hz:z.Valid){p:Nat}(hp1:8<=p)(hp2:p<=512):∀ k,(iW z p k).Valid
 | 0=>hz
 | k+1=>gO (nG hz hp1 hp2 k) (jQ _ _ (by omega) (by omega)) (by omega) (by omega)
theorem NT{z:Iv}(hz:z.Valid){p:Nat}(hp1:8<=p)(hp2:p<=512)(N:Nat):(pf z p N).Valid:=uw (gO (nG hz hp1 hp2 N) (oC (kA hz hp1 hp2 N)) (by omega) (by omega)) 1
theorem yE(r:Rat)(k:Nat):dA r (2*(k+1)+1)=dA r (2*k+1)*(r*r):=by
 show dA r (2*k+1)*r*r=_
 grind
theorem xi{z:Iv}{r:Rat}(hz:z.Valid)(h:z.has r){p:Nat}(hp1:8<=p)(hp2:p<=512):∀ k,(dJ z p k).has (dA r (2*k+1))
 | 0=>by
  have e:dA r (2*0+1)=r:=by show 1*r=r;grind
  rw[e];exact h
 | k+1=>by
  rw[yE];exact tC (kA hz hp1 hp2 k) (uB hz (by omega) (by omega)) (by omega) (by omega) (xi hz h hp1 hp2 k) (yS hz (by omega) (by omega) h)
theorem Dc{z:Iv}{r:Rat}(hz:z.Valid)(h:z.has r){p:Nat}(hp1:8<=p)(hp2:p<=512):∀ k,k<1000000->(iW z p k).has (AQ r k)
 | 0,_=>by
  have e:AQ r 0=r:=by
   show 0+1*r/((2*0+1:Nat):Rat)=r;have:((2*0+1:Nat):Rat)=1:=rfl;rw[this,Rat.div_def,show(1:Rat)⁻¹=1 by decide +kernel];grind
  rw[e];exact h
 | k+1,hk=>nc (nG hz hp1 hp2 k) (jQ _ _ (by omega) (by omega)) (by omega) (by omega) (Dc hz h hp1 hp2 k (by omega))
   (sK (kA hz hp1 hp2 (k+1)) (qU (2*k+3) (by omega)) (by omega) (by omega) (xi hz h hp1 hp2 (k+1)) (Ed (2*k+3)))
theorem ve(r:Rat):∀ n,aD (dA r n)=dA (aD r) n
 | 0=>by show aD 1=1;decide +kernel
 | n+1=>by simp only[dA];rw[kp,ve r n]
theorem Hd(r:Rat)(k:Nat):aD (iB r k)<=dA (aD r) (2*k+1):=by
 unfold iB;have hp:(0:Rat)<((2*k+1:Nat):Rat):=mF (2*k);have h1:(1:Rat)<=((2*k+1:Nat):Rat):=by
  have:=Rat.natCast_le_natCast (a:=1) (b:=2*k+1);exact this.2 (by omega)
 have h0:=nZ (cJ r).1 (2*k+1);rw[Rat.div_def,kp,ve];have hi:=Rat.inv_pos.2 hp;have e:aD (((2*k+1:Nat):Rat)⁻¹)=((2*k+1:Nat):Rat)⁻¹:=by unfold aD;rw[if_pos (Rat.le_of_lt hi)]
 rw[e,<-Rat.div_def];have x0:=BL h0 hp;have xc:=Rat.div_mul_cancel (a:=dA (aD r) (2*k+1)) (b:=((2*k+1:Nat):Rat)) (by grind);generalize dA (aD r) (2*k+1)/((2*k+1:Nat):Rat)=x at *
 have:=Rat.mul_le_mul_of_nonneg_left h1 x0
 grind
theorem Ap{r:Rat}(hr:aD r*2<=1)(N:Nat):∀ d,aA (fun i=>aD (iB r (N+1+i))) d+dA (aD r) (2*(N+d)+1)<=dA (aD r) (2*N+1)
 | 0=>by simp only[aA,Nat.add_zero];grind
 | d+1=>by
  have ih:=Ap hr N d;have h1:=Hd r (N+1+d);have e:2*(N+1+d)+1=2*(N+d+1)+1:=by omega
  rw[e,yE]at h1;have e2:2*(N+(d+1))+1=2*(N+d+1)+1:=by omega
  rw[e2,yE,aA];have h0:=nZ (cJ r).1 (2*(N+d)+1);have hz:=(cJ r).1;have hs:aD r*aD r*4<=1:=by
   have m:=Rat.mul_le_mul_of_nonneg_left hr (show 0<=aD r*2 by grind)
   grind
  generalize dA (aD r) (2*(N+d)+1)=u at *
  generalize aD r*aD r=v at *
  have m2:=Rat.mul_le_mul_of_nonneg_left hs h0
  grind
theorem NS{z:Iv}{r:Rat}(hz:z.Valid)(h:z.has r)(hr:aD r*2<=1){p:Nat}(hp1:8<=p)(hp2:p<=512){N:Nat}(hN:N<=1000):∀ M,N<=M->(pf z p N).has (AQ r M*2):=by
 intro M hM;obtain⟨d,rfl⟩:∃ d,M=N+d:=⟨M-N,by omega⟩
 have e1:AQ r (N+d)=AQ r N+aA (fun i=>iB r (N+1+i)) d:=by
  unfold AQ;rw[show N+d+1=N+1+d by omega,pJ]
 have t:=Ap hr N d;have b1:=ot (fun i=>iB r (N+1+i)) d;have p0:=nZ (cJ r).1 (2*(N+d)+1);have e2:P2 1=2:=by decide +kernel
 rw[<-e2,e1];refine yJ (nc (nG hz hp1 hp2 N) (oC (kA hz hp1 hp2 N)) (by omega) (by omega) (Dc hz h hp1 hp2 N (by omega)) (Ao (kA hz hp1 hp2 N) (xi hz h hp1 hp2 N) ?_)) 1;rw[ve];grind
theorem R8{z:Iv}(hz:z.Valid)(h:Sub z (eD (-1))){p:Nat}(hp1:8<=p)(hp2:p<=512):Sub (dR z p) (eD (-1)):=by
 obtain⟨za,k1,k2⟩:=h.known rfl;replace k1:(aJ (eK (-1))).q<=z.lo.q:=k1;replace k2:z.hi.q<=(eK (-1)).q:=k2;have e:P2 (-1)=1/2:=by decide +kernel
 rw[fD,fC,e]at k1;rw[fC,e]at k2;have hl:=z8 za;have ha:(bh z).Valid:=r9 hz;have hq:=ha.q;have hh:(bh z).hi.q<=1/2:=by
  unfold bh;rw[za];show(dj z).q<=1/2;obtain⟨_,_,m⟩:=nJ hz.q;have:=hz.q;rcases m with m|m<;>grind
 have G1:=mc (p:=p) (by omega) (n:=-1) (by decide) (by decide);have A:=jY (mn (bh z).lo (bh z).lo) (p:=p) (by omega) (by omega);have B:=jZ (mn (bh z).hi (bh z).hi) (p:=p) (by omega) (by omega);rw[pv]at A B;rw[e]at G1;have hlo:0<=(bh z).lo.q*(bh z).lo.q:=Rat.mul_nonneg hl hl;have hhi:(bh z).hi.q*(bh z).hi.q<=1/2:=by
  have h0:0<=(bh z).hi.q:=Rat.le_trans hl hq;have m:=Rat.mul_le_mul_of_nonneg_left hh h0
  grind
 have a1:=A.2 (-(1/2)) G1.neg (by grind);have b1:=B.2 (1/2) G1 hhi;unfold dR ck;rw[mh,za];simp only[Bool.false_eq_true,if_false];rw[if_neg (by omega)];refine .inr ⟨rfl,?_,?_⟩
 .show (aJ (eK (-1))).q<=_
  rw[fD,fC,e];exact a1.2
 .show _<=(eK (-1)).q
  rw[fC,e];exact b1.2
theorem Db{z:Iv}(hz:z.Valid)(h:Sub z (eD (-1))){p:Nat}(hp1:8<=p)(hp2:p<=512):∀ k,k<=900->Sub (dJ z p k) (eD (-((k+1:Nat):Int)))
 | 0,_=>h
 | k+1,hk=>by
  have ih:=Db hz h hp1 hp2 k (by omega);have sq:=R8 hz h hp1 hp2;have vT:=kA hz hp1 hp2 k;obtain⟨ta,_⟩:=ih.known rfl;obtain⟨ya,_⟩:=sq.known rfl;exact pY (xt vT (uB hz (by omega) (by omega)) ta ya (show 1<=p by omega) (by omega)) (by omega) (by omega) (by omega) (by
   rintro r ⟨a,b,ha,hb,rfl⟩;obtain⟨a1,a2⟩:=oE.1 (ih.has ha);obtain⟨b1,b2⟩:=oE.1 (sq.has hb);rw[<-CH];exact Ab a1 a2 b1 b2)
theorem NU{z:Iv}(hz:z.Valid)(h:z.all=true\/Sub z (eD (-1))){p:Nat}(hp1:8<=p)(hp2:p<=512):∃ N,N<=1000/\(∀ x,x<N->dY (dJ z p x) p=false)/\dY (dJ z p N) p=true:=by
 have ex:∃ x,x<900/\dY (dJ z p x) p=true:=by
  rcases h with h|h
  .exact ⟨0,by omega,by show dY z p=true;unfold dY;rw[h];rfl⟩
  .exact ⟨p,by omega,Gi (kA hz hp1 hp2 _) (Db hz h hp1 hp2 p (by omega))⟩
 obtain⟨N,n1,n2,n3⟩:=gG ex;exact⟨N,by omega,n3,n2⟩
theorem Hn{a b:Rat}(h:a<=b)(k:Nat):iB a k<=iB b k:=by
 unfold iB;rw[Rat.div_def,Rat.div_def];exact Rat.mul_le_mul_of_nonneg_right (yD (by omega) h) (Rat.le_of_lt (Rat.inv_pos.2 (mF (2*k))))
theorem rU{a b:Rat}(h:a<=b)(N:Nat):AQ a N<=AQ b N:=od _ fun k _=>Hn h k
open Go.RowKit Fp Pu
theorem rh{d:Dy}(h:d.m≠0):aD d.q<P2 d.top:=by
 have hT:d.top=(aj d.m:Int)+d.e:=by unfold Dy.top;rw[if_neg h]
 have h1:(d.m:Rat)<((2^aj d.m:Nat):Rat):=Rat.natCast_lt_natCast.2 (gl d.m);have h2:=Rat.mul_lt_mul_of_pos_right h1 (df d.e);rw[<-kP,<-fG]at h2;have h0:0<=(d.m:Rat)*P2 d.e:=Rat.mul_nonneg Rat.natCast_nonneg (Rat.le_of_lt (df _));have h4:aD d.q=(d.m:Rat)*P2 d.e:=by
  rw[eN];unfold aD;cases d.neg
  .simp only[Bool.false_eq_true,if_false];rw[if_pos h0]
  .simp only[if_true]
   split<;>grind
 rw[h4,hT];exact h2
theorem xZ{d:Dy}(h:d.m≠0):P2 (d.top-1)<=aD d.q:=by
 have hT:d.top=(aj d.m:Int)+d.e:=by unfold Dy.top;rw[if_neg h]
 have hb:0<aj d.m:=jA.2 (by rw[Nat.pow_zero];omega);have h1:2^(aj d.m-1)<=d.m:=jA.1 (by omega);have h2:((2^(aj d.m-1):Nat):Rat)<=(d.m:Rat):=Rat.natCast_le_natCast.2 h1;have h3:=Rat.mul_le_mul_of_nonneg_right h2 (Rat.le_of_lt (df d.e));rw[<-kP,<-fG,show((aj d.m-1:Nat):Int)+d.e=d.top-1 by rw[hT];omega]at h3;have h4:aD d.q=(d.m:Rat)*P2 d.e:=by
  have h0:0<=(d.m:Rat)*P2 d.e:=Rat.mul_nonneg Rat.natCast_nonneg (Rat.le_of_lt (df _));rw[eN];unfold aD;cases d.neg
  .simp only[Bool.false_eq_true,if_false];rw[if_pos h0]
  .simp only[if_true]
   split<;>grind
 rw[h4];exact h3
theorem pt{d:Dy}(h:0<d.q):d.m≠0:=fun e=>by
 have:d.q=0:=by rw[eN,e];simp
 grind
theorem sd{r:Rat}(h:0<r):aD r=r:=by unfold aD;rw[if_pos (Rat.le_of_lt h)]
def jB(d:Dy):Rat:=d.q*P2 (-d.top)
def lX(d:Dy):Rat:=(jB d-1)/(jB d+1)
theorem zS(k:Int):P2 k*P2 (-k)=1:=by rw[<-fG,show k + -k=0 by omega,uZ]
theorem DK{d:Dy}(h:0<d.q):1/2<=jB d/\jB d<1:=by
 have h1:=xZ (pt h);have h2:=rh (pt h);rw[sd h]at h1 h2;have hp:=df (-d.top);have e1:=zS d.top;have e2:P2 (d.top-1)*P2 (-d.top)=1/2:=by
  rw[<-fG,show d.top-1 + -d.top = -1 by omega];decide +kernel
 have m1:=Rat.mul_le_mul_of_nonneg_right h1 (Rat.le_of_lt hp);have m2:=Rat.mul_lt_mul_of_pos_right h2 hp;unfold jB;constructor<;>grind
theorem wI{a b:Rat}(ha:0<=a)(h:a<=b):(a-1)/(a+1)<=(b-1)/(b+1):=by
 have h1:0<a+1:=by grind
 have h2:0<b+1:=by grind
 have e1:=Rat.div_mul_cancel (a:=a-1) (b:=a+1) (by grind);have e2:=Rat.div_mul_cancel (a:=b-1) (b:=b+1) (by grind);generalize (a-1)/(a+1)=x at *
 generalize (b-1)/(b+1)=y at *
 apply Rat.not_lt.1;intro hlt;have m1:=Rat.mul_lt_mul_of_pos_right hlt h1;have hy:y<1:=by
  apply Rat.not_le.1;intro hle;have:=Rat.mul_le_mul_of_nonneg_right hle (Rat.le_of_lt h2)
  grind
 have m2:=Rat.mul_le_mul_of_nonneg_left h (show 0<=1-y by grind)
 grind
theorem zF{d:Dy}(h:0<d.q):-(1/3)<=lX d/\lX d<=0:=by
 obtain⟨h1,h2⟩:=DK h;have a:=wI (show(0:Rat)<=1/2 by decide +kernel) h1;have b:=wI (show 0<=jB d by grind) (Rat.le_of_lt h2);have e1:((1:Rat)/2-1)/(1/2+1) = -(1/3):=by decide +kernel
 have e2:((1:Rat)-1)/(1+1)=0:=by decide +kernel
 rw[e1]at a;rw[e2]at b;exact⟨a,b⟩
theorem uV(z:Rat)(N:Nat):AQ (-z) N = -AQ z N:=by
 have:∀ n,aA (iB (-z)) n = -aA (iB z) n:=by
  intro n
  induction n with
  | zero=>simp[aA]
  | succ n ih =>
   rw[aA,aA,ih];have:iB (-z) n = -iB z n:=by
    unfold iB;rw[nY,if_neg (by omega)];simp only[Rat.div_def];grind
   rw[this];grind
 exact this _
theorem zG(N:Nat):AQ 0 N=0:=by
 have:=uV 0 N;rw[show -(0:Rat)=0 by decide +kernel]at this
 grind
theorem GP(N:Nat):0<=AQ (1/3) N:=by
 have:=rU (show(0:Rat)<=1/3 by decide +kernel) N;rwa[zG]at this
def LQ(d:Dy)(N:Nat):Rat:=AQ (lX d) N*2+(d.top:Rat)*(AQ (1/3) N*2)
theorem SL{a b:Dy}(ha:0<a.q)(h:a.q<=b.q):a.top<=b.top:=by
 have hb:0<b.q:=by grind
 have h1:=xZ (pt ha);have h2:=rh (pt hb);rw[sd ha]at h1;rw[sd hb]at h2;apply Classical.byContradiction;intro hlt;have:=pN (show b.top<=a.top-1 by omega)
 grind
theorem G3{a b:Dy}(ha:0<a.q)(h:a.q<=b.q)(N:Nat):LQ a N<=LQ b N:=by
 have hb:0<b.q:=by grind
 have ht:=SL ha h;obtain⟨a1,a2⟩:=zF ha;obtain⟨b1,b2⟩:=zF hb;have c0:=GP N;unfold LQ;rcases Int.lt_or_eq_of_le ht with hlt|heq
 .have k1:=rU a2 N
  rw[zG]at k1;have k2:=rU b1 N;rw[uV]at k2;have k3:(a.top:Rat)+1<=(b.top:Rat):=by
   have:=Rat.intCast_le_intCast (a:=a.top+1) (b:=b.top);have:=this.2 (by omega);rwa[Rat.intCast_add]at this
  have k4:=Rat.mul_le_mul_of_nonneg_right k3 (show 0<=AQ (1/3) N*2 by grind)
  grind
 .have hm:jB a<=jB b:=by
   unfold jB;rw[heq];exact Rat.mul_le_mul_of_nonneg_right h (Rat.le_of_lt (df _))
  have hz:lX a<=lX b:=wI (by have:=(DK ha).1;grind) hm;have:=rU hz N;rw[heq]
  grind
theorem G4(N:Nat):LQ ⟨false,1,0⟩ N=0:=by
 have e1:lX ⟨false,1,0⟩ = -(1/3):=by decide +kernel
 have e2:((⟨false,1,0⟩:Dy).top:Rat)=1:=by decide +kernel
 unfold LQ;rw[e1,e2,uV];grind
open Go.RowKit Fp Pu
noncomputable def iG(d:Dy)(p:Nat):Iv:=cX (cr (cG d) p) (-d.top)
noncomputable def ph(d:Dy)(p:Nat):Iv:=bU (bj (iG d p) (aP (-1)) p) (bj (iG d p) (aP 1) p) p
theorem Gm{d:Dy}(hd:d.Valid)(h:d.m≠0):-16384<=d.top-1/\d.top<=16384:=by
 have hT:d.top=(aj d.m:Int)+d.e:=by unfold Dy.top;rw[if_neg h]
 have hb:0<aj d.m:=jA.2 (by rw[Nat.pow_zero];omega);have h1:=hd.range;unfold cW at h1;have h2:=hd.exp;constructor
 .omega
 .rw [hT]
  first|omega|(rcases h1 with h1|h1<;>first|omega|exact absurd h1 h)
theorem Rj{d:Dy}(hd:d.Valid)(h:0<d.q){p:Nat}(hp1:8<=p)(hp2:p<=512)(ha:(cr (cG d) p).all=false):P2 (d.top-1)<=(cr (cG d) p).lo.q/\(cr (cG d) p).hi.q<=P2 d.top:=by
 have hm:=pt h;obtain⟨t1,t2⟩:=Gm hd hm;have q1:=xZ hm;have q2:=rh hm;rw[sd h]at q1 q2;have A:=jY hd.canon (p:=p) (by omega) (by omega);have B:=jZ hd.canon (p:=p) (by omega) (by omega);have G1:G p (P2 (d.top-1)):=.inl ⟨1,d.top-1,by rw[kr];omega,t1,by rw[kr];omega,by simp⟩;have he:¬(bg d p false≠0\/bg d p true≠0):=by
  intro hc;unfold cr ck at ha;rw[show(cG d).all=false from rfl]at ha;simp only[Bool.false_eq_true,if_false]at ha;rw[if_pos (show bg (cG d).lo p false≠0\/bg (cG d).hi p true≠0 from hc)]at ha;cases ha
 have e1:(cr (cG d) p).lo=bq d p false/\(cr (cG d) p).hi=bq d p true:=by
  unfold cr ck;rw[show(cG d).all=false from rfl];simp only[Bool.false_eq_true,if_false];rw[if_neg (show ¬(bg (cG d).lo p false≠0\/bg (cG d).hi p true≠0)from he)];exact⟨rfl,rfl⟩
 rw[e1.1,e1.2];refine⟨(A.2 _ G1 q1).2,?_⟩;by_cases ht:d.top<=16383
 .have G2:G p (P2 d.top):=.inl ⟨1,d.top,by rw[kr];omega,by omega,by rw[kr];omega,by simp⟩
  exact(B.2 _ G2 (Rat.le_of_lt q2)).2
 .obtain ⟨g,_⟩:=B.1 (by omega)
  have hq0:0<=(bq d p true).q:=Rat.le_trans (Rat.le_of_lt h) (B.1 (by omega)).2;obtain⟨m,e,hb,_,hr,hv⟩:=g.pos hq0;rw[hv];have h1:(m:Rat)<=((2^aj m:Nat):Rat):=Rat.natCast_le_natCast.2 (Nat.le_of_lt (gl m));have h2:=Rat.mul_le_mul_of_nonneg_right h1 (Rat.le_of_lt (df e));rw[<-kP,<-fG]at h2;exact Rat.le_trans h2 (pN (by omega))
theorem Oe{d:Dy}(hd:d.Valid){p:Nat}(hp1:8<=p)(hp2:p<=512):(iG d p).has (jB d):=yJ (ru (jG hd) (by omega) (by omega) (xU d)) _
theorem Og{d:Dy}(hd:d.Valid){p:Nat}(hp1:8<=p)(hp2:p<=512):(iG d p).Valid:=uw (pC (jG hd) (by omega) (by omega)) _
theorem Of{d:Dy}(hd:d.Valid)(h:0<d.q){p:Nat}(hp1:8<=p)(hp2:p<=512)(ha:(iG d p).all=false):1/2<=(iG d p).lo.q/\(iG d p).hi.q<=1:=by
 unfold iG cX at ha ⊢;cases ra:(cr (cG d) p).all
 .rw [ra]at ha
  obtain⟨h1,h2⟩:=Rj hd h hp1 hp2 ra;simp only[Bool.false_eq_true,if_false]at ha ⊢;unfold ck at ha ⊢;split
  .rename_i he
   rw[if_pos he]at ha;cases ha
  .rename_i he
   have e1:=zS d.top;have e2:P2 (d.top-1)*P2 (-d.top)=1/2:=by
    rw[<-fG,show d.top-1 + -d.top = -1 by omega];decide +kernel
   refine⟨?_,?_⟩
   .show 1/2<=(iu _ _).q
    rw[mQ (by omega),<-e2,jC];exact h1
   .show (iu _ _).q<=1
    rw[mQ (by omega),<-e1,jC];exact h2
 .rw [ra]at ha;cases ha
theorem MV{a b:Rat}(h1:-(1/2)<=a)(h2:a<=1/2)(hb:1<=b):-(1/2)<=a/b/\a/b<=1/2:=by
 have e:=Rat.div_mul_cancel (a:=a) (b:=b) (by grind);generalize a/b=x at *
 constructor
 .apply Rat.not_lt.1
  intro hlt;have:=Rat.mul_lt_mul_of_pos_right hlt (show 0<b by grind)
  grind
 .apply Rat.not_lt.1
  intro hlt;have:=Rat.mul_lt_mul_of_pos_right hlt (show 0<b by grind)
  grind
theorem Oh{d:Dy}(hd:d.Valid)(h:0<d.q){p:Nat}(hp1:8<=p)(hp2:p<=512):(ph d p).Valid/\(ph d p).has (lX d)/\((ph d p).all=true\/Sub (ph d p) (eD (-1))):=by
 have vM:=Og hd hp1 hp2;have hM:=Oe hd hp1 hp2;have vn:(aP (-1)).Valid:=jD (by decide);have v1:(aP 1).Valid:=jD (by decide);have vA:(bj (iG d p) (aP (-1)) p).Valid:=gO vM vn (by omega) (by omega);have vB:(bj (iG d p) (aP 1) p).Valid:=gO vM v1 (by omega) (by omega);have e1:(((-1:Int)):Rat) = -1:=by decide +kernel
 have e2:(((1:Int)):Rat)=1:=by decide +kernel
 have hA:=nc vM vn (p:=p) (by omega) (by omega) hM (lF (-1));have hB:=nc vM v1 (p:=p) (by omega) (by omega) hM (lF 1);rw[e1,show jB d + -1=jB d-1 by grind]at hA;rw[e2]at hB;refine⟨jQ _ _ (by omega) (by omega),sK vA vB (by omega) (by omega) hA hB,?_⟩;cases ma:(iG d p).all
 .right
  obtain⟨m1,m2⟩:=Of hd h hp1 hp2 ma;have one:∀ (n:Int) r,(aP n).has r->r=(n:Rat):=fun n r hr=>by
   obtain⟨r1,r2⟩:=hr.ends rfl;replace r1:(ay n).q<=r:=r1;replace r2:r<=(ay n).q:=r2;rw[mL]at r1 r2;exact Rat.le_antisymm r2 r1
  have g1:G p (1/2):=by have:=mc (p:=p) (by omega) (n:=-1) (by decide) (by decide);rwa[show P2 (-1)=1/2 by decide +kernel]at this
  have g2:G p 1:=by have:=mc (p:=p) (by omega) (n:=0) (by decide) (by decide);rwa[uZ]at this
  have g4:G p 2:=by have:=mc (p:=p) (by omega) (n:=1) (by decide) (by decide);rwa[show P2 1=2 by decide +kernel]at this
  obtain⟨aa,a1,a2⟩:=(vf vM vn ma rfl (show 1<=p by omega) (by omega)).least (-(1/2)) (1/2) g1.neg g1 (by
   rintro r ⟨a,b,ha,hb,rfl⟩;obtain⟨b1,b2⟩:=ha.ends ma;rw[one _ b hb,e1];constructor<;>grind)
  obtain⟨ba,b1,b2⟩:=(vf vM v1 ma rfl (show 1<=p by omega) (by omega)).least 1 2 g2 g4 (by
   rintro r ⟨a,b,ha,hb,rfl⟩;obtain⟨b1,b2⟩:=ha.ends ma;rw[one _ b hb,e2];constructor<;>grind)
  refine pY (sJ vA vB aa (yQ ba (.inl (by grind))) (show 1<=p by omega) (by omega)) (by omega) (by decide) (by decide) ?_;rintro r ⟨a,b,ha,hb,rfl⟩;obtain⟨x1,x2⟩:=ha.ends aa;obtain⟨y1,y2⟩:=hb.ends ba;rw[show P2 (-1)=1/2 by decide +kernel];exact MV (by grind) (by grind) (by grind)
 .left
  show(bU (bj (iG d p) (aP (-1)) p) (bj (iG d p) (aP 1) p) p).all=true;rw[se p (.inl ma),ql p (.inl rfl)];rfl
theorem Ln{d:Dy}(hd:d.Valid)(h:d.m≠0){p:Nat}(hp1:8<=p)(hp2:p<=512){n:Int}(h1:d.top<=n)(h2:-1000<=n)(h3:n<=1000):Sub (cr (cG d) p) (eD n):=by
 refine Ri (jG hd) (by omega) (by omega) h2 h3 (.inr ⟨rfl,?_,?_⟩)
 .show (aJ (eK n)).q<=d.q
  rw[fD,fC];have:=rh h;have hl:=pN h1;obtain⟨_,a2,a3,_⟩:=cJ d.q
  grind
 .show d.q<=(eK n).q
  rw[fC];have:=rh h;have hl:=pN h1;obtain⟨_,a2,a3,_⟩:=cJ d.q
  grind
open Go.RowKit Fp Pu
def Gy(y:Iv)(p n:Nat)(x:Nat):PS:=⟨32,true,[(7,.e (iP (((x+1):Nat):Int))),(6,.box 6 0),(5,.box 5 0),(4,.box 4 0),(3,.box 3 0),(2,.box 2 0)],[(6,.cells 41 (aE (iD y p x))),(5,.cells 41 (aE (b7 y p x))),(4,.cells 41 [(bP false),(.v (.slice none 0 0)),(iP 0),(bP false),(.v (.slice none 0 0)),(iP 0),(bP false)]),(3,.cells 41 (aE y)),(2,.cells 201 [(iP p)])]⟩
theorem NX{f:Nat->Rat}{X Y:Iv}(h:dU f X)(k:∀ r,X.has r->Y.has r):dU f Y:=fun ε hε=>by
 obtain⟨N0,h0⟩:=h ε hε;exact⟨N0,fun N hN=>by obtain⟨r,h1,h2⟩:=h0 N hN;exact⟨r,k r h1,h2⟩⟩
theorem NA{x:Iv}(hx:x.Valid)(ha:x.all=true):x=an:=by
 obtain⟨h1,h2⟩:=C1 hx ha;obtain⟨a,b,c⟩:=x;simp only at h1 h2 ha;rw[h1,h2,ha];rfl
theorem Ie(x:Iv)(hx:x.Valid)(xa:x.all=true)(k:Int)(k1:-32768<=k)(k2:k<=32768):ae 259 [(ai x),(iP k)] (ai (cX x k)):=by
 exact tr true Tryz.call259 Tryz.func259 (chain [.o 10 (.e (di _):PV.le (.e (.sl true 1 7 fun i_ j_=>(aE x).getD (i_*7+j_) (.v (.bool false)))) (.e (ak [x]))),.c (eI _ ‹_›:ae 86 [(ak [x])] _),tB 11 (by rw[xa];rfl:(!x.all)=false),
  .c du]<|rQ (ai an) (ai (cX x k)) (by rw[show(cX x k)=an by unfold cX;rw[if_pos xa]])) (by kernel_rfl)
theorem Ig(x:Iv)(hx:x.Valid)(xa:x.all=false)(k:Int)(k1:-32768<=k)(k2:k<=32768):ae 259 [(ai x),(iP k)] (ai (cX x k)):=by
 obtain⟨v1,v2⟩:=hx.ends;exact tr true Tryz.call259 Tryz.func259 (chain [.o 10 (.e (di _):PV.le (.e (.sl true 1 7 fun i_ j_=>(aE x).getD (i_*7+j_) (.v (.bool false)))) (.e (ak [x]))),.c (eI _ ‹_›:ae 86 [(ak [x])] _),tB 11 (by rw[xa];rfl:(!x.all)=true),
  .c (pW x.lo k ‹_› (by omega) (by omega)),.c (pW x.hi k ‹_› (by omega) (by omega)),
  .c (nC (bH (canon x.lo.neg x.lo.m (x.lo.e+k))) (bH (canon x.hi.neg x.hi.m (x.hi.e+k))) (cQ (canon x.lo.neg x.lo.m (x.lo.e+k))) (cQ (canon x.hi.neg x.hi.m (x.hi.e+k))))]<|rQ (ai (ck (bH (canon x.lo.neg x.lo.m (x.lo.e+k))) (cQ (canon x.lo.neg x.lo.m (x.lo.e+k))) (bH (canon x.hi.neg x.hi.m (x.hi.e+k))) (cQ (canon x.hi.neg x.hi.m (x.hi.e+k))))) (ai (cX x k)) (by unfold cX;rw[if_neg (by rw[xa];decide)];simp only[RC,RE])) (by kernel_rfl)
theorem vk(x:Iv)(hx:x.Valid)(k:Int)(k1:-32768<=k)(k2:k<=32768):ae 259 [(ai x),(iP k)] (ai (cX x k)):=by
 cases xa:x.all with
 | true=>exact Ie x hx xa k k1 k2
 | false=>exact Ig x hx xa k k1 k2
theorem Ib(x:Iv)(hx:x.Valid)(xa:x.all=true)(p:Nat)(hp1:8<=p)(hp2:p<=512):ae 305 [(ai x),(iP p)] (ai (cr x p)):=by
 exact tr true Tryz.call305 Tryz.func305 (chain [.o 10 (.e (di _):PV.le (.e (.sl true 1 7 fun i_ j_=>(aE x).getD (i_*7+j_) (.v (.bool false)))) (.e (ak [x]))),.c (eI _ ‹_›:ae 86 [(ak [x])] _),tB 11 (by rw[xa];rfl:(!x.all)=false),
  .c du]<|rQ (ai an) (ai (cr x p)) (by rw[show(cr x p)=an by unfold cr;rw[if_pos xa]])) (by kernel_rfl)
theorem Ic(x:Iv)(hx:x.Valid)(xa:x.all=false)(p:Nat)(hp1:8<=p)(hp2:p<=512):ae 305 [(ai x),(iP p)] (ai (cr x p)):=by
 obtain⟨v1,v2⟩:=hx.ends;exact tr true Tryz.call305 Tryz.func305 (chain [.o 10 (.e (di _):PV.le (.e (.sl true 1 7 fun i_ j_=>(aE x).getD (i_*7+j_) (.v (.bool false)))) (.e (ak [x]))),.c (eI _ ‹_›:ae 86 [(ak [x])] _),tB 11 (by rw[xa];rfl:(!x.all)=true),
  .c (jy _:ae 87 [(iP p)] _),tB 15 (fU.2 ⟨by omega,by omega⟩:(cw (p:Int))=true),.c (sr x.lo p ‹_› (by omega) (by omega)),
  .c (ss x.hi p ‹_› (by omega) (by omega)),.c (nC (bq x.lo p false) (bq x.hi p true) (bg x.lo p false) (bg x.hi p true))]<|rQ (ai (ck (bq x.lo p false) (bg x.lo p false) (bq x.hi p true) (bg x.hi p true))) (ai (cr x p)) (by unfold cr;rw[if_neg (by rw[xa];decide)])) (by kernel_rfl)
theorem pV(x:Iv)(hx:x.Valid)(p:Nat)(hp1:8<=p)(hp2:p<=512):ae 305 [(ai x),(iP p)] (ai (cr x p)):=by
 cases xa:x.all with
 | true=>exact Ib x hx xa p hp1 hp2
 | false=>exact Ic x hx xa p hp1 hp2
theorem Ih(x:Iv)(hx:x.Valid)(xa:x.all=true)(p:Nat)(hp1:8<=p)(hp2:p<=512):ae 321 [(ai x),(iP p)] (ai (dR x p)):=by
 have ha:(bh x).all=true:=by rw[mh,xa]
 exact tr true Tryz.call321 Tryz.func321 (chain [.c (wY x ‹_›),tB 13 (ha:(bh x).all=true),.c du]<|rQ (ai an) (ai (dR x p)) (by unfold dR;rw[if_pos ha])) (by kernel_rfl)
theorem Ii(x:Iv)(hx:x.Valid)(xa:x.all=false)(p:Nat)(hp1:8<=p)(hp2:p<=512):ae 321 [(ai x),(iP p)] (ai (dR x p)):=by
 have ha:(bh x).all=false:=by rw[mh,xa]
 have hv:=r9 hx;obtain⟨v1,v2⟩:=hv.ends;exact tr true Tryz.call321 Tryz.func321 (chain [.c (wY x ‹_›),tB 13 (ha:(bh x).all=false),.c (jy _:ae 87 [(iP p)] _),tB 16 (fU.2 ⟨by omega,by omega⟩:(cw (p:Int))=true),
  .c (tZ ((bh x).lo) ((bh x).lo) p ‹_› ‹_› (by omega) (by omega)),.c (ua ((bh x).hi) ((bh x).hi) p ‹_› ‹_› (by omega) (by omega)),
  .c (nC (bq (cS ((bh x).lo) ((bh x).lo)) p false) (bq (cS ((bh x).hi) ((bh x).hi)) p true) (bg (cS ((bh x).lo) ((bh x).lo)) p false) (bg (cS ((bh x).hi) ((bh x).hi)) p true))]<|rQ (ai (ck (bq (cS ((bh x).lo) ((bh x).lo)) p false) (bg (cS ((bh x).lo) ((bh x).lo)) p false) (bq (cS ((bh x).hi) ((bh x).hi)) p true) (bg (cS ((bh x).hi) ((bh x).hi)) p true))) (ai (dR x p)) (by unfold dR;rw[if_neg (by rw[ha];decide)];rfl)) (by kernel_rfl)
theorem AF(x:Iv)(hx:x.Valid)(p:Nat)(hp1:8<=p)(hp2:p<=512):ae 321 [ai x,iP (p:Int)] (ai (dR x p)):=by
 cases xa:x.all with
 | true=>exact Ih x hx xa p hp1 hp2
 | false=>exact Ii x hx xa p hp1 hp2
theorem AG(x:Iv)(hx:x.Valid)(xa:x.all=true):ae 298 [(ai x)] (.aq [ag aI,bP false]):=by
 exact tr true Tryz.call298 Tryz.func298 (chain [.o 5 (.e (di _):PV.le (.e (.sl true 1 7 fun i_ j_=>(aE x).getD (i_*7+j_) (.v (.bool false)))) (.e (ak [x]))),.c (eI _ ‹_›:ae 86 [(ak [x])] _),tB 6 (by rw[xa];rfl:(!x.all)=false),
  .o 8 (.e gZ:PV.le (.e (.agg [(bP false),(.v (.slice none 0 0)),(iP 0)])) (.e (ag aI)))] <| .nil) (by kernel_rfl)
theorem kf(n:Int)(h:n.natAbs<4294967296):ae 303 [(iP n)] (ai (aP n)):=by
 have hv:=dD h;exact tr true Tryz.call303 Tryz.func303 (chain [.c (dB _ (by omega):ae 113 [(iP n)] _),.c (pd (ay n) ‹_›)] <| .nil) (by kernel_rfl)
theorem na(p:Nat)(x y:Iv)(hx:x.Valid)(hy:y.Valid)(hp1:8<=p)(hp2:p<=512):ae 308 [(.agg [(iP p)]),(ai x),(ai y)] (ai (bj x y p)):=by
 exact tr true Tryz.call308 Tryz.func308 (chain [.c (o9 x y p ‹_› ‹_› (by omega) (by omega))] <| .nil) (by kernel_rfl)
theorem uQ(p:Nat)(x y:Iv)(hx:x.Valid)(hy:y.Valid)(hp1:8<=p)(hp2:p<=512):ae 310 [(.agg [(iP p)]),(ai x),(ai y)] (ai (aU x y p)):=by
 exact tr true Tryz.call310 Tryz.func310 (chain [.c (qx x y p ‹_› ‹_› (by omega) (by omega))] <| .nil) (by kernel_rfl)
theorem rL(p:Nat)(x y:Iv)(hx:x.Valid)(hy:y.Valid)(hp1:8<=p)(hp2:p<=512):ae 307 [(.agg [(iP p)]),(ai x),(ai y)] (ai (bU x y p)):=by
 exact tr true Tryz.call307 Tryz.func307 (chain [.c (CU x y p ‹_› ‹_› (by omega) (by omega))] <| .nil) (by kernel_rfl)
theorem Th(p:Nat)(x:Iv)(hx:x.Valid)(xa:x.all=true)(hp1:8<=p)(hp2:p<=512):ae 322 [(.agg [(iP p)]),(ai x)] (bP (dY x p)):=by
 exact tr true Tryz.call322 Tryz.func322 (chain [.c (AG _ hx xa:ae 298 [(ai x)] _)]<|rQ (bP true) (bP (dY x p)) (by unfold dY;rw[xa];rfl)) (by kernel_rfl)
theorem Gh{x:Iv}(xa:x.all=false)(p:Nat):dY x p=(((dj x).sign==0)||decide ((dj x).top<=0-(p:Int))):=by
 unfold dY;rw[xa,Bool.false_or];congr 1
 .unfold Dy.sign
  by_cases h:(dj x).m=0
  .simp [h]
  .simp only[h,if_false,decide_false];split<;>rfl
 .rw [show(0:Int)-(p:Int) = -(p:Int)by omega]
theorem Ti(p:Nat)(x:Iv)(hx:x.Valid)(xa:x.all=false)(hp1:8<=p)(hp2:p<=512):ae 322 [(.agg [(iP p)]),(ai x)] (bP (dY x p)):=by
 have hm:=tz hx.ends.1 hx.ends.2;exact tr true Tryz.call322 Tryz.func322 (chain [.c (w7 x hx xa),.c (dt _ ‹_›:ae 35 [(ag (dj x))] _)] <| .w ((Dy.sign (dj x))=0)
  (fun k1=>chain [tB 17 (beq_iff_eq.2 k1)]<|rQ (bP true) (bP (dY x p)) (by rw[Gh xa];simp[k1]))
  (fun k1=>chain [tB 17 (beq_eq_false_iff_ne.2 k1),.c (bS _ ‹_›:ae 130 [(ag (dj x))] _),ar (0-(p:Int)) (by omega)]<|rQ (bP (decide ((Dy.top (dj x))<=(0-(p:Int))))) (bP (dY x p)) (by rw[Gh xa];simp[k1]))) (by kernel_rfl)
theorem uR(p:Nat)(x:Iv)(hx:x.Valid)(hp1:8<=p)(hp2:p<=512):ae 322 [(.agg [(iP p)]),(ai x)] (bP (dY x p)):=by
 cases xa:x.all with
 | true=>exact Th p x hx xa hp1 hp2
 | false=>exact Ti p x hx xa hp1 hp2
theorem To(x:Iv)(hx:x.Valid)(xa:x.all=true):ae 323 [(ai x)] (ai (fH x)):=by
 exact tr true Tryz.call323 Tryz.func323 (chain [.c (AG _ hx xa:ae 298 [(ai x)] _),.c du]<|rQ (ai an) (ai (fH x)) (by rw[show fH x=an by unfold fH;rw[if_pos xa];exact NA hx xa])) (by kernel_rfl)
theorem Tp(x:Iv)(hx:x.Valid)(xa:x.all=false):ae 323 [(ai x)] (ai (fH x)):=by
 have hm:=tz hx.ends.1 hx.ends.2;exact tr true Tryz.call323 Tryz.func323 (chain [.c (w7 x hx xa),.c (kZ _ ‹_›:ae 191 [(ag (dj x))] _)]<|rQ (ai (Iv.mk (aJ (dj x)) (dj x) false)) (ai (fH x)) (by unfold fH;rw[if_neg (by rw[xa];decide)];try rfl)) (by kernel_rfl)
theorem GI(x:Iv)(hx:x.Valid):ae 323 [ai x] (ai (fH x)):=by
 cases xa:x.all with
 | true=>exact To x hx xa
 | false=>exact Tp x hx xa
theorem Tc(y:Iv)(p n:Nat)(hy:y.Valid)(hp1:8<=p)(hp2:p<=512)(h2:n<=1000)(hlo:∀ x,x<n->dY (b7 y p (x+1)) p=false)(hN:dY (b7 y p (n+1)) p=true):ae 320 [(.agg [(iP p)]),(ai y)] (ai (lf y p (n+1))):=by
 have t0:=jJ hy hp1 hp2 n;have s0:=oO hy hp1 hp2 n;have t1:(aU (b7 y p n) y p).Valid:=iJ _ _ (by omega) (by omega);have n1:(aP (((n+1:Nat)):Int)).Valid:=nN _ (by omega);have t2:(bU (aU (b7 y p n) y p) (aP (((n+1:Nat)):Int)) p).Valid:=jQ _ _ (by omega) (by omega)
 have a1:(bj (iD y p n) (bU (aU (b7 y p n) y p) (aP (((n+1):Nat):Int)) p) p).Valid:=gO s0 t2 (by omega) (by omega);have r1:=oC t2;exact tr true Tryz.call320 Tryz.func320 (chain [.c (kf _ (by omega):ae 303 [(iP 1)] _),.c (kf _ (by omega):ae 303 [(iP 1)] _),
  .s (Sp.upto (Gy y p n) 0 n (by omega) (fun x hx hltx=>by
    have t0:=jJ hy hp1 hp2 x;have s0:=oO hy hp1 hp2 x;have t1:(aU (b7 y p x) y p).Valid:=iJ _ _ (by omega) (by omega);have n1:(aP (((x+1:Nat)):Int)).Valid:=nN _ (by omega);have t2:(bU (aU (b7 y p x) y p) (aP (((x+1:Nat)):Int)) p).Valid:=jQ _ _ (by omega) (by omega)
    exact aB (chain [.c (uQ _ _ _ ‹_› ‹_› (by omega) (by omega):ae 310 [(.agg [(iP p)]),(ai (b7 y p x)),(ai y)] _),.c (kf _ (by omega):ae 303 [(iP (((x+1):Nat):Int))] _),
     .c (rL _ _ _ ‹_› ‹_› (by omega) (by omega):ae 307 [(.agg [(iP p)]),(ai (aU (b7 y p x) y p)),(ai (aP (((x+1):Nat):Int)))] _),
     .c (na _ _ _ ‹_› ‹_› (by omega) (by omega):ae 308 [(.agg [(iP p)]),(ai (iD y p x)),(ai (bU (aU (b7 y p x) y p) (aP (((x+1):Nat):Int)) p))] _),
     .c (uR _ _ ‹_› (by omega) (by omega):ae 322 [(.agg [(iP p)]),(ai (bU (aU (b7 y p x) y p) (aP (((x+1):Nat):Int)) p))] _),
     tB 26 (hlo x (by omega):(dY (bU (aU (b7 y p x) y p) (aP (((x+1):Nat):Int)) p) p)=false),ar ((((x+1):Nat):Int)+1) (by omega)] <| .e (chain [.b 6 (.of_eq rfl:Bx.le (.cells 41 (aE (bj (iD y p x) (bU (aU (b7 y p x) y p) (aP (((x+1):Nat):Int)) p) p))) (.cells 41 (aE (iD y p (x+1))))),
  .b 5 (.of_eq rfl:Bx.le (.cells 41 (aE (bU (aU (b7 y p x) y p) (aP (((x+1):Nat):Int)) p))) (.cells 41 (aE (b7 y p (x+1)))))] <| .nil)) (by kernel_rfl))
  (fun hx=>by
    exact aB (chain [.c (uQ _ _ _ ‹_› ‹_› (by omega) (by omega):ae 310 [(.agg [(iP p)]),(ai (b7 y p n)),(ai y)] _),.c (kf _ (by omega):ae 303 [(iP (((n+1):Nat):Int))] _),
    .c (rL _ _ _ ‹_› ‹_› (by omega) (by omega):ae 307 [(.agg [(iP p)]),(ai (aU (b7 y p n) y p)),(ai (aP (((n+1):Nat):Int)))] _),
    .c (na _ _ _ ‹_› ‹_› (by omega) (by omega):ae 308 [(.agg [(iP p)]),(ai (iD y p n)),(ai (bU (aU (b7 y p n) y p) (aP (((n+1):Nat):Int)) p))] _),
    .c (uR _ _ ‹_› (by omega) (by omega):ae 322 [(.agg [(iP p)]),(ai (bU (aU (b7 y p n) y p) (aP (((n+1):Nat):Int)) p))] _),
    tB 26 (hN:(dY (bU (aU (b7 y p n) y p) (aP (((n+1):Nat):Int)) p) p)=true)] <| .nil) (by kernel_rfl)) (by nofun):bA 4 Tryz.f320 (Gy y p n 0) (.exit 0) ⟨32,true,[(6,.box 6 0),(5,.box 5 0),(4,.box 4 0),(2,.box 2 0)],[(6,.cells 41 (aE (bj (iD y p n) (bU (aU (b7 y p n) y p) (aP (((n+1):Nat):Int)) p) p))),(5,.cells 41 (aE (bU (aU (b7 y p n) y p) (aP (((n+1):Nat):Int)) p))),(4,.cells 41 [(bP false),(.v (.slice none 0 0)),(iP 0),(bP false),(.v (.slice none 0 0)),(iP 0),(bP false)]),(2,.cells 201 [(iP p)])]⟩) (chain [.o 7 (.int (by first|rfl|omega|(simp only[Nat.add_mul,Nat.one_mul];omega)):PV.le (.e (iP 1)) (.e (iP (((0+1):Nat):Int)))),.b 6 (.of_eq rfl:Bx.le (.cells 41 (aE (aP 1))) (.cells 41 (aE (iD y p 0)))),
  .b 5 (.of_eq rfl:Bx.le (.cells 41 (aE (aP 1))) (.cells 41 (aE (b7 y p 0))))] <| .nil),
  .c (GI _ ‹_›:ae 323 [(ai (bU (aU (b7 y p n) y p) (aP (((n+1):Nat):Int)) p))] _),
  .c (na _ _ _ ‹_› ‹_› (by omega) (by omega):ae 308 [(.agg [(iP p)]),(ai (bj (iD y p n) (bU (aU (b7 y p n) y p) (aP (((n+1):Nat):Int)) p) p)),(ai (fH (bU (aU (b7 y p n) y p) (aP (((n+1):Nat):Int)) p)))] _)]<|rR (ai (lf y p (n+1))) (.of_eq rfl:E.le (ai (bj (bj (iD y p n) (bU (aU (b7 y p n) y p) (aP (((n+1):Nat):Int)) p) p) (fH (bU (aU (b7 y p n) y p) (aP (((n+1):Nat):Int)) p)) p)) (ai (lf y p (n+1))))) (by kernel_rfl)
theorem Td{y:Iv}(hy:y.Valid)(hb:y.all=true\/Sub y (eD (-1))){p:Nat}(hp1:8<=p)(hp2:p<=512):∃ Z,Z.Valid/\(∀ r,y.has r->dU (EQ r) Z)/\ae 320 [.agg [iP (p:Int)],ai y] (ai Z):=by
 obtain⟨N,h1,h2,h3,h4⟩:=Lu hy hb hp1 hp2;obtain⟨n,rfl⟩:∃ n,N=n+1:=⟨N-1,by omega⟩
 exact⟨lf y p (n+1),Lt hy hp1 hp2 _,fun r hr=>Ls hy hr hb hp1 hp2 h1 h2,Tc y p n hy hp1 hp2 (by omega) (fun x hx=>h3 (x+1) (by omega) (by omega)) h4⟩
theorem Tf(y Z:Iv)(p:Nat)(hExp:ae 320 [.agg [iP (p:Int)],ai y] (ai Z)):ae 306 [(.agg [(iP p)]),(ai y),(iP 0)] (ai Z):=by
 exact tr true Tryz.call306 Tryz.func306 (chain [tB 8 (by decide:((0:Int)==0)=true),.c (hExp:ae 320 [(.agg [(iP p)]),(ai y)] _)] <| .nil) (by kernel_rfl)
theorem Te(y Z:Iv)(p n:Nat)(hy:y.Valid)(hZ:Z.Valid)(hn:n<=1000)(hH:ae 306 [.agg [iP (p:Int)],ai (cX y (-1)),iP (n:Int)] (ai Z))(hp1:8<=p)(hp2:p<=512):ae 306 [(.agg [(iP p)]),(ai y),(iP (((n+1):Nat):Int))] (ai (dR Z p)):=by
 exact tr true Tryz.call306 Tryz.func306 (chain [tB 8 (dW (by omega):((((n+1):Nat):Int)==0)=false),.c (vk _ ‹_› _ (by omega) (by omega):ae 259 [(ai y),(iP (-1))] _),ar ((((n+1):Nat):Int)-1) (by omega),
  .c (by rw[show(((n+1:Nat):Int)-1)=(n:Int)by omega];exact hH:ae 306 [(.agg [(iP p)]),(ai (cX y (-1))),(iP ((((n+1):Nat):Int)-1))] (ai Z)),
  .c (AF _ ‹_› _ (by omega) (by omega):ae 321 [(ai Z),(iP p)] _)] <| .nil) (by kernel_rfl)
theorem Gz{p:Nat}(hp1:8<=p)(hp2:p<=512):∀ (n:Nat) {y:Iv},n<=500->y.Valid->(y.all=true\/Sub y (eD ((n:Int)-1)))->∃ Z,Z.Valid/\(∀ r,y.has r->dU (EQ r) Z)/\ae 306 [.agg [iP (p:Int)],ai y,iP (n:Int)] (ai Z)
 | 0,y,_,hy,hb=>by
  obtain⟨Z,h1,h2,h3⟩:=Td hy (by simpa using hb) hp1 hp2;exact⟨Z,h1,h2,Tf y Z p h3⟩
 | n+1,y,hn,hy,hb=>by
  have hs:=uw hy (-1);have hb':(cX y (-1)).all=true\/Sub (cX y (-1)) (eD ((n:Int)-1)):=by
   rcases hb with hb|hb
   .left;unfold cX;rw[if_pos hb];rfl
   .have:=RG hb
    rwa[show(((n+1:Nat):Int)-1-1)=(n:Int)-1 by omega]at this
  obtain⟨Z,h1,h2,h3⟩:=Gz hp1 hp2 n (by omega) hs hb';exact⟨dR Z p,uB h1 (by omega) (by omega),fun r hr=>NV h1 (h2 _ (yJ hr (-1))) (by omega) (by omega),Te y Z p n hy h1 (by omega) h3 hp1 hp2⟩
theorem zC(p m:Nat)(h1:p<=512)(h2:m<=1000):ae 304 [(iP p),(iP m)] (.agg [iP (((min (p+m) 512:Nat)):Int)]):=by
 exact tr true Tryz.call304 Tryz.func304 (chain [ar ((p:Int)+(m:Int)) (by omega),.o 8 (.int (by split<;>omega):PV.le (.e (iP (if 512<(((p+m):Nat):Int)then 512 else(((p+m):Nat):Int)))) (.e (iP (((min (p+m) 512):Nat):Int))))] <| .nil) (by kernel_rfl)
theorem TF(d:Dy)(p:Nat)(hd:d.Valid)(h0:d.sign=0)(hp1:8<=p)(hp2:p<=512):ae 282 [(ag d),(iP p)] (ai (aP 1)):=by
 exact tr true Tryz.call282 Tryz.func282 (chain [.c (dt _ ‹_›:ae 35 [(ag d)] _),tB 9 (by rw[h0];rfl:((Dy.sign d)==0)=true),.c (kf _ (by omega):ae 303 [(iP 1)] _)] <| .nil) (by kernel_rfl)
theorem rG{d:Dy}(hd:d.Valid):-100000<=d.top:=by
 unfold Dy.top;have:=hd.exp;split<;>omega
theorem SN{d:Dy}(h:d.m=0):d.top=0:=by unfold Dy.top;rw[if_pos h]
theorem TE(d:Dy)(p:Nat)(Z:Iv)(hd:d.Valid)(h0:d.sign≠0)(ht:d.top<=100)(hZ:Z.Valid)(hH:ae 306 [.agg [iP ((((min (p+(((d.top+1).toNat)+24)) 512):Nat)):Int)],ai (cr (cG d) (min (p+(((d.top+1).toNat)+24)) 512)),iP (((((d.top+1).toNat):Nat)):Int)] (ai Z))(hp1:8<=p)(hp2:p<=512):ae 282 [(ag d),(iP p)] (ai (cr Z p)):=by
 have ht2:-100000<=d.top:=rG hd;have vp:=jG hd;exact tr true Tryz.call282 Tryz.func282 (chain [.c (dt _ ‹_›:ae 35 [(ag d)] _),tB 9 (by simpa using h0:((Dy.sign d)==0)=false),.c (bS _ ‹_›:ae 130 [(ag d)] _),ar ((Dy.top d)+1) (by omega),
  .o 14 (.int (by split<;>omega):PV.le (.e (iP (if 0>((Dy.top d)+1)then 0 else((Dy.top d)+1)))) (.e (iP ((((d.top+1).toNat):Nat):Int)))),ar (((((d.top+1).toNat):Nat):Int)+24) (by omega),
  .c (zC _ _ (by omega) (by omega):ae 304 [(iP p),(iP (((((d.top+1).toNat)+24):Nat):Int))] _),.c (pd d ‹_›),
  .c (pV _ ‹_› _ (by omega) (by omega):ae 305 [(ai (cG d)),(iP (((min (p+(((d.top+1).toNat)+24)) 512):Nat):Int))] _),
  .c (hH:ae 306 [(.agg [(iP (((min (p+(((d.top+1).toNat)+24)) 512):Nat):Int))]),(ai (cr (cG d) (min (p+(((d.top+1).toNat)+24)) 512))),(iP ((((d.top+1).toNat):Nat):Int))] _),
  .c (pV _ ‹_› _ (by omega) (by omega):ae 305 [(ai Z),(iP p)] _)] <| .nil) (by kernel_rfl)
theorem RU{d:Dy}(h:d.sign≠0):d.m≠0:=fun q=>h (by unfold Dy.sign;rw[if_pos q])
theorem GL{d:Dy}(hd:d.Valid)(ht:d.top<=100){p:Nat}(hp1:8<=p)(hp2:p<=512):∃ Z,Z.Valid/\dU (EQ d.q) Z/\ae 282 [ag d,iP (p:Int)] (ai Z):=by
 by_cases h0:d.sign=0
 .refine ⟨aP 1,jD (by decide),?_,TF d p hd h0 hp1 hp2⟩
  have hq:d.q=0:=by
   have h1:=fW d;rw[h0]at h1;have a:=h1.1.2;have b:=h1.2.2;have:¬0<d.q:=fun q=>absurd (a q) (by decide)
   have:¬d.q<0:=fun q=>absurd (b q) (by decide)
   grind
  rw[hq];exact dU.xK (k:=0) fun N _=>by rw[GW];exact lF 1
 .have hm:=RU h0
  obtain⟨P,hP⟩:∃ P,P=min (p+((d.top+1).toNat+24)) 512:=⟨_,rfl⟩
  have hb:=Ln hd hm (p:=P) (by omega) (by omega) (n:=(((d.top+1).toNat:Nat):Int)-1) (by omega) (by omega) (by omega);obtain⟨Z,h1,h2,h3⟩:=Gz (p:=P) (by omega) (by omega) ((d.top+1).toNat) (by omega) (pC (jG hd) (by omega) (by omega)) (.inr hb);subst hP;refine⟨cr Z p,pC h1 (by omega) (by omega),?_,TE d p Z hd h0 ht h1 h3 hp1 hp2⟩
  have hl:=h2 _ (ru (jG hd) (by omega) (by omega) (xU d));exact NX hl fun r hr=>ru h1 (by omega) (by omega) hr
theorem GJ(a b:Iv)(ha:a.Valid)(hb:b.Valid):ae 281 [(ai a),(ai b)] (ai (iS a b)):=by
 exact tr true Tryz.call281 Tryz.func281 (.w (a.all=true)
  (fun k1=>chain [tB 6 (k1),.c du]<|rQ (ai an) (ai (iS a b)) (by unfold iS;simp[k1]))
  (fun k1=>chain [tB 6 (Bool.eq_false_iff.2 k1)] <| .w (b.all=true)
   (fun k2=>chain [tB 9 (k2),.c du]<|rQ (ai an) (ai (iS a b)) (by unfold iS;simp[k1,k2]))
   (fun k2=>chain [tB 9 (Bool.eq_false_iff.2 k2)]<|rQ (ai (Iv.mk a.lo b.hi false)) (ai (iS a b)) (by unfold iS;simp[k1,k2])))) (by kernel_rfl)
def il(d:Dy):Bool:=decide (aC (cB d) (ay 1000)<=0)
theorem rP(d:Dy)(hd:d.Valid):ae 280 [(ag d)] (bP (il d)):=by
 have ha:=kR hd;have hi:(ay 1000).Valid:=dD (by decide);exact tr true Tryz.call280 Tryz.func280 (chain [.c (qn d ‹_›),.c (dB _ (by omega):ae 113 [(iP 1000)] _),.c (bZ _ _ ‹_› ‹_›:ae 37 [(ag (cB d)),(ag (ay 1000))] _)] <| .nil) (by kernel_rfl)
theorem oi(x:Iv)(p:Nat)(hx:x.Valid)(hp1:8<=p)(hp2:p<=512):ae 279 [(ai x),(iP p)] (bP (!x.all)):=by
 exact tr true Tryz.call279 Tryz.func279 (.w (x.all=true)
  (fun k1=>chain [tB 6 (k1)]<|rQ (bP false) (bP (!x.all)) (by simp[k1]))
  (fun k1=>chain [tB 6 (Bool.eq_false_iff.2 k1),.c (dc x ‹_›),tT 14 (8<=(p:Int)) (by omega),tT 18 ((p:Int)<=512) (by omega)]<|rQ (bP true) (bP (!x.all)) (by simp[k1]))) (by kernel_rfl)
theorem Ts(x:Iv)(p:Nat)(hx:x.Valid)(hp1:8<=p)(hp2:p<=512)(xa:x.all=true):ae 242 [(ai x),(iP p)] (ai an):=by
 exact tr true Tryz.call242 Tryz.func242 (chain [.c (oi _ _ ‹_› (by omega) (by omega):ae 279 [(ai x),(iP p)] _),tB 7 (by rw[xa];rfl:(!x.all)=false),.c du] <| .nil) (by kernel_rfl)
theorem Tw(x:Iv)(p:Nat)(hx:x.Valid)(hp1:8<=p)(hp2:p<=512)(xa:x.all=false)(h1:il x.lo=false):ae 242 [(ai x),(iP p)] (ai an):=by
 obtain⟨w1,w2⟩:=hx.ends;exact tr true Tryz.call242 Tryz.func242 (chain [.c (oi _ _ ‹_› (by omega) (by omega):ae 279 [(ai x),(iP p)] _),tB 7 (by rw[xa];rfl:(!x.all)=true),.c (rP _ ‹_›:ae 280 [(ag x.lo)] _),
  tB 12 (h1:(il x.lo)=false),.c du] <| .nil) (by kernel_rfl)
theorem Tu(x:Iv)(p:Nat)(hx:x.Valid)(hp1:8<=p)(hp2:p<=512)(xa:x.all=false)(h1:il x.lo=true)(h2:il x.hi=false):ae 242 [(ai x),(iP p)] (ai an):=by
 obtain⟨w1,w2⟩:=hx.ends;exact tr true Tryz.call242 Tryz.func242 (chain [.c (oi _ _ ‹_› (by omega) (by omega):ae 279 [(ai x),(iP p)] _),tB 7 (by rw[xa];rfl:(!x.all)=true),.c (rP _ ‹_›:ae 280 [(ag x.lo)] _),tB 12 (h1:(il x.lo)=true),
  .c (rP _ ‹_›:ae 280 [(ag x.hi)] _),tB 18 (h2:(il x.hi)=false),.c du] <| .nil) (by kernel_rfl)
theorem Tv(x:Iv)(p:Nat)(hx:x.Valid)(hp1:8<=p)(hp2:p<=512)(xa:x.all=false)(h1:il x.lo=true)(h2:il x.hi=true)(Z1 Z2:Iv)(z1:Z1.Valid)(z2:Z2.Valid)(k1:ae 282 [ag x.lo,iP (p:Int)] (ai Z1))(k2:ae 282 [ag x.hi,iP (p:Int)] (ai Z2)):ae 242 [(ai x),(iP p)] (ai (iS Z1 Z2)):=by
 obtain⟨w1,w2⟩:=hx.ends;exact tr true Tryz.call242 Tryz.func242 (chain [.c (oi _ _ ‹_› (by omega) (by omega):ae 279 [(ai x),(iP p)] _),tB 7 (by rw[xa];rfl:(!x.all)=true),.c (rP _ ‹_›:ae 280 [(ag x.lo)] _),tB 12 (h1:(il x.lo)=true),
  .c (rP _ ‹_›:ae 280 [(ag x.hi)] _),tB 18 (h2:(il x.hi)=true),.c (k1:ae 282 [(ag x.lo),(iP p)] _),.c (k2:ae 282 [(ag x.hi),(iP p)] _),
  .c (GJ _ _ ‹_› ‹_›:ae 281 [(ai Z1),(ai Z2)] _)] <| .nil) (by kernel_rfl)
theorem DJ{d:Dy}(hd:d.Valid)(h:il d=true):d.top<=100:=by
 by_cases h0:d.m=0
 .rw [SN h0];decide
 .unfold il at h
  rw[decide_eq_true_eq,eG,mL]at h;have hq:=lI d;have ha:aD d.q<=P2 10:=by
   have:P2 10=1024:=by decide +kernel
   rw[this];have h1000:((1000:Int):Rat)=1000:=rfl;rw[h1000]at h;exact jN (by grind) (by grind)
  have:=Gl h0 ha;omega
theorem Ca{a b:Iv}(ha:a.Valid)(hb:b.Valid)(h:a.all=false->b.all=false->a.lo.q<=b.hi.q):(iS a b).Valid:=by
 unfold iS;cases xa:a.all
 .cases xb:b.all
  .exact .inr ⟨rfl,ha.ends.1,hb.ends.2,(eG _ _).2 (h xa xb)⟩
  .exact cz
 .exact cz
theorem zz{x:Iv}(hx:x.Valid){p:Nat}(hp1:8<=p)(hp2:p<=512):∃ Z,Z.Valid/\ae 242 [ai x,iP (p:Int)] (ai Z):=by
 cases xa:x.all with
 | true=>exact⟨an,cz,Ts x p hx hp1 hp2 xa⟩
 | false =>
  cases h1:il x.lo with
  | false=>exact⟨an,cz,Tw x p hx hp1 hp2 xa h1⟩
  | true =>
   cases h2:il x.hi with
   | false=>exact⟨an,cz,Tu x p hx hp1 hp2 xa h1 h2⟩
   | true =>
    obtain⟨w1,w2⟩:=hx.ends;obtain⟨Z1,z1,l1,k1⟩:=GL w1 (DJ w1 h1) hp1 hp2;obtain⟨Z2,z2,l2,k2⟩:=GL w2 (DJ w2 h2) hp1 hp2;exact⟨iS Z1 Z2,Ca z1 z2 fun a b=>NW l1 l2 (fun ε hε=>GS hx.q hε) a b,Tv x p hx hp1 hp2 xa h1 h2 Z1 Z2 z1 z2 k1 k2⟩
open Go.RowKit Fp Pu
def GA(z:Iv)(p N:Nat)(x:Nat):PS:=⟨39,true,[(8,.e (iP (((2*x+3):Nat):Int))),(7,.box 7 0),(6,.box 6 0),(5,.box 5 0),(4,.box 4 0),(2,.box 2 0)],[(7,.cells 41 (aE (iW z p x))),(6,.cells 41 (aE (dJ z p x))),(5,.cells 41 (aE (dR z p))),(4,.cells 41 [(bP false),(.v (.slice none 0 0)),(iP 0),(bP false),(.v (.slice none 0 0)),(iP 0),(bP false)]),(2,.cells 201 [(iP p)])]⟩
theorem Tg(z:Iv)(p N:Nat)(hz:z.Valid)(hp1:8<=p)(hp2:p<=512)(h2:N<=1000)(hlo:∀ x,x<N->dY (dJ z p x) p=false)(hN:dY (dJ z p N) p=true):ae 309 [(.agg [(iP p)]),(ai z)] (ai (pf z p N)):=by
 have hsq:=uB hz (show 1<=p by omega) (show p<=4096 by omega);have t0:=kA hz hp1 hp2 N;have s0:=nG hz hp1 hp2 N;have r0:=oC t0;have a0:=gO s0 r0 (show 1<=p by omega) (show p<=4096 by omega);exact tr true Tryz.call309 Tryz.func309 (chain [.c (AF _ ‹_› _ (by omega) (by omega):ae 321 [(ai z),(iP p)] _),
  .s (Sp.upto (GA z p N) 0 N (by omega) (fun x hx hltx=>by
    have t0:=kA hz hp1 hp2 x;have s0:=nG hz hp1 hp2 x;have q0:(aU (dJ z p x) (dR z p) p).Valid:=iJ _ _ (by omega) (by omega);have n1:(aP (((2*x+3:Nat)):Int)).Valid:=nN _ (by omega);have d1:(bU (aU (dJ z p x) (dR z p) p) (aP (((2*x+3:Nat)):Int)) p).Valid:=jQ _ _ (by omega) (by omega)
    exact aB (chain [.c (uR p (dJ z p x) ‹_› (by omega) (by omega)),tB 17 (hlo x (by omega):(dY (dJ z p x) p)=false),.c (uQ p (dJ z p x) (dR z p) ‹_› ‹_› (by omega) (by omega)),
     .c (kf (((2*x+3):Nat):Int) (by omega)),.c (rL p (aU (dJ z p x) (dR z p) p) (aP (((2*x+3):Nat):Int)) ‹_› ‹_› (by omega) (by omega)),
     .c (na p (iW z p x) (bU (aU (dJ z p x) (dR z p) p) (aP (((2*x+3):Nat):Int)) p) ‹_› ‹_› (by omega) (by omega)),ar ((((2*x+3):Nat):Int)+2) (by omega)] <| .e (chain [.o 8 (.int (by first|rfl|omega|(simp only[Nat.add_mul,Nat.one_mul];omega)):PV.le (.e (iP ((((2*x+3)+2):Nat):Int))) (.e (iP (((2*(x+1)+3):Nat):Int)))),
  .b 7 (.of_eq rfl:Bx.le (.cells 41 (aE (bj (iW z p x) (bU (aU (dJ z p x) (dR z p) p) (aP (((2*x+3):Nat):Int)) p) p))) (.cells 41 (aE (iW z p (x+1))))),
  .b 6 (.of_eq rfl:Bx.le (.cells 41 (aE (aU (dJ z p x) (dR z p) p))) (.cells 41 (aE (dJ z p (x+1)))))] <| .nil)) (by kernel_rfl))
  (fun hx=>by
    have t0:=kA hz hp1 hp2 N;have s0:=nG hz hp1 hp2 N;have q0:(aU (dJ z p N) (dR z p) p).Valid:=iJ _ _ (by omega) (by omega);have n1:(aP (((2*N+3:Nat)):Int)).Valid:=nN _ (by omega);have d1:(bU (aU (dJ z p N) (dR z p) p) (aP (((2*N+3:Nat)):Int)) p).Valid:=jQ _ _ (by omega) (by omega)
    exact aB (chain [.c (uR p (dJ z p N) ‹_› (by omega) (by omega)),tB 17 (hN:(dY (dJ z p N) p)=true)] <| .nil) (by kernel_rfl)) (by nofun):bA 4 Tryz.f309 (GA z p N 0) (.exit 0) ⟨39,true,[(7,.box 7 0),(6,.box 6 0),(4,.box 4 0),(2,.box 2 0)],[(7,.cells 41 (aE (iW z p N))),(6,.cells 41 (aE (dJ z p N))),(4,.cells 41 [(bP false),(.v (.slice none 0 0)),(iP 0),(bP false),(.v (.slice none 0 0)),(iP 0),(bP false)]),(2,.cells 201 [(iP p)])]⟩) (chain [.o 8 (.int (by first|rfl|omega|(simp only[Nat.add_mul,Nat.one_mul];omega)):PV.le (.e (iP 3)) (.e (iP (((2*0+3):Nat):Int)))),.b 7 (.of_eq rfl:Bx.le (.cells 41 (aE z)) (.cells 41 (aE (iW z p 0)))),
  .b 6 (.of_eq rfl:Bx.le (.cells 41 (aE z)) (.cells 41 (aE (dJ z p 0))))] <| .nil),
  .c (GI _ ‹_›:ae 323 [(ai (dJ z p N))] _),.c (na p (iW z p N) (fH (dJ z p N)) ‹_› ‹_› (by omega) (by omega)),
  .c (vk (bj (iW z p N) (fH (dJ z p N)) p) ‹_› 1 (by omega) (by omega))]<|rR (ai (pf z p N)) (.refl _:E.le (ai (cX (bj (iW z p N) (fH (dJ z p N)) p) 1)) (ai (pf z p N)))) (by kernel_rfl)
def oj(f:Nat->Rat)(X:Iv):Prop:=∃ N0,∀ M,N0<=M->X.has (f M)
theorem oj.mono{f:Nat->Rat}{X Y:Iv}(h:oj f X)(k:∀ r,X.has r->Y.has r):oj f Y:=h.imp fun _ h M hM=>k _ (h M hM)
theorem GB{z:Iv}(hz:z.Valid)(hb:z.all=true\/Sub z (eD (-1))){p:Nat}(hp1:8<=p)(hp2:p<=512):∃ Z,Z.Valid/\(∀ r,z.has r->aD r*2<=1->oj (fun M=>AQ r M*2) Z)/\ae 309 [(.agg [(iP p)]),(ai z)] (ai Z):=by
 obtain⟨N,h1,h2,h3⟩:=NU hz hb hp1 hp2;exact⟨pf z p N,NT hz hp1 hp2 N,fun r hr ha=>⟨N,fun M hM=>NS hz hr ha hp1 hp2 h1 M hM⟩,Tg z p N hz hp1 hp2 h1 h2 h3⟩
theorem SI{p:Nat}(hp1:8<=p)(hp2:p<=512):(bU (aP 1) (aP 3) p).Valid/\(bU (aP 1) (aP 3) p).has (1/3)/\Sub (bU (aP 1) (aP 3) p) (eD (-1)):=by
 have v1:(aP 1).Valid:=jD (by decide);have v3:(aP 3).Valid:=jD (by decide);have h1:=lF 1;have h3:=lF 3;refine⟨jQ _ _ (by omega) (by omega),?_,?_⟩
 .have:=sK v1 v3 (p:=p) (by omega) (by omega) h1 h3
  rwa[show((1:Int):Rat)/((3:Int):Rat)=1/3 from rfl]at this
 .have hs:dw (aP 3)≠0:=yQ rfl (.inl (by show 0<(ay 3).q;rw[mL];decide))
  refine pY (sJ v1 v3 rfl hs (p:=p) (by omega) (by omega)) (by omega) (by decide) (by decide) ?_;rintro r ⟨a,b,ha,hb,rfl⟩;obtain⟨a1,a2⟩:=ha.ends rfl;obtain⟨b1,b2⟩:=hb.ends rfl;change (ay 1).q<=a at a1;change a<=(ay 1).q at a2;change (ay 3).q<=b at b1;change b<=(ay 3).q at b2;rw[mL]at a1 a2 b1 b2;have ea:a=1:=Rat.le_antisymm a2 a1;have eb:b=3:=Rat.le_antisymm b2 b1
  subst ea eb;have:P2 (-1)=1/2:=by decide +kernel
  rw[this];exact⟨by decide +kernel,by decide +kernel⟩
theorem Ty(p:Nat)(Z:Iv)(hZ:Z.Valid)(hL:ae 309 [.agg [iP ((((min (p+16) 512):Nat)):Int)],ai (bU (aP 1) (aP 3) (min (p+16) 512))] (ai Z))(hp1:8<=p)(hp2:p<=512):ae 311 [(iP p)] (ai (cr Z p)):=by
 have v1:(aP 1).Valid:=jD (by decide);have v3:(aP 3).Valid:=jD (by decide);exact tr true Tryz.call311 Tryz.func311 (chain [tF 5 ((p:Int)<8) (by omega),tF 8 (512<(p:Int)) (by omega),.c (zC p 16 (by omega) (by omega)),.c (kf 1 (by omega)),.c (kf 3 (by omega)),
  .c (rL (min (p+16) 512) (aP 1) (aP 3) ‹_› ‹_› (by omega) (by omega)),.c (hL:ae 309 [(.agg [(iP (((min (p+16) 512):Nat):Int))]),(ai (bU (aP 1) (aP 3) (min (p+16) 512)))] _),
  .c (pV Z ‹_› p (by omega) (by omega))] <| .nil) (by kernel_rfl)
theorem Tx{p:Nat}(hp1:8<=p)(hp2:p<=512):∃ Z,Z.Valid/\oj (fun M=>AQ (1/3) M*2) Z/\ae 311 [iP (p:Int)] (ai Z):=by
 obtain⟨t1,t2,t3⟩:=SI (p:=min (p+16) 512) (by omega) (by omega);obtain⟨Z,h1,h2,h3⟩:=GB t1 (.inr t3) (p:=min (p+16) 512) (by omega) (by omega);refine⟨cr Z p,pC h1 (by omega) (by omega),(h2 _ t2 (by decide +kernel)).mono fun r hr=>ru h1 (by omega) (by omega) hr,Ty p Z h1 h3 hp1 hp2⟩
def kg:Iv:=⟨aI,aI,false⟩
theorem GN:E.le (.agg [bP false,.v (.slice none 0 0),iP 0,bP false,.v (.slice none 0 0),iP 0,bP false]) (ai kg) :=
 .agg (.cons (.refl _) (.cons nM (.cons (.refl _) (.cons (.refl _) (.cons nM (.cons (.refl _) (.cons (.refl _) .nil)))))))
theorem TC(d:Dy)(p:Nat)(hd:d.Valid)(h1:aC d ⟨false,1,0⟩=0)(hp1:8<=p)(hp2:p<=512):ae 283 [(ag d),(iP p)] (ai kg):=by
 have v1:=pr;exact tr true Tryz.call283 Tryz.func283 (chain [.c (vi:ae 113 [(iP 1)] _),.c (bZ _ _ ‹_› ‹_›:ae 37 [(ag d),(ag (Dy.mk false 1 0))] _),tB 12 (by rw[h1];rfl:((aC d (Dy.mk false 1 0))==0)=true)]<|rR (ai kg) (GN:E.le (.agg [(bP false),(.v (.slice none 0 0)),(iP 0),(bP false),(.v (.slice none 0 0)),(iP 0),(bP false)]) (ai kg))) (by kernel_rfl)
theorem TD(d:Dy)(p:Nat)(Z Y:Iv)(hd:d.Valid)(h1:¬aC d ⟨false,1,0⟩=0)(ht1:-20000<=d.top)(ht2:d.top<=20000)(hZ:Z.Valid)(hY:Y.Valid)(hL:ae 309 [.agg [iP ((((min (p+40) 512):Nat)):Int)],ai (bU (bj (cX (cr (cG d) (min (p+40) 512)) (0-(Dy.top d))) (aP (-1)) (min (p+40) 512)) (bj (cX (cr (cG d) (min (p+40) 512)) (0-(Dy.top d))) (aP 1) (min (p+40) 512)) (min (p+40) 512))] (ai Z))(hL2:ae 311 [iP ((((min (p+40) 512):Nat)):Int)] (ai Y))(hp1:8<=p)(hp2:p<=512):ae 283 [(ag d),(iP p)] (ai (cr (bj Z (aU (aP d.top) Y (min (p+40) 512)) (min (p+40) 512)) p)):=by
 have v1:=pr;have vp:=jG hd;have vr:(cr (cG d) (min (p+40) 512)).Valid:=pC vp (by omega) (by omega);have vs:(cX (cr (cG d) (min (p+40) 512)) (0-(Dy.top d))).Valid:=uw vr _;have n1:(aP 1).Valid:=jD (by decide);have n2:(aP (-1)).Valid:=jD (by decide)
 have a1:(bj (cX (cr (cG d) (min (p+40) 512)) (0-(Dy.top d))) (aP (-1)) (min (p+40) 512)).Valid:=gO vs n2 (by omega) (by omega);have a2:(bj (cX (cr (cG d) (min (p+40) 512)) (0-(Dy.top d))) (aP 1) (min (p+40) 512)).Valid:=gO vs n1 (by omega) (by omega)
 have a3:(bU (bj (cX (cr (cG d) (min (p+40) 512)) (0-(Dy.top d))) (aP (-1)) (min (p+40) 512)) (bj (cX (cr (cG d) (min (p+40) 512)) (0-(Dy.top d))) (aP 1) (min (p+40) 512)) (min (p+40) 512)).Valid:=jQ _ _ (by omega) (by omega);have nt:(aP d.top).Valid:=jD (by omega)
 have m1:(aU (aP d.top) Y (min (p+40) 512)).Valid:=iJ _ _ (by omega) (by omega);have m2:(bj Z (aU (aP d.top) Y (min (p+40) 512)) (min (p+40) 512)).Valid:=gO hZ m1 (by omega) (by omega)
 exact tr true Tryz.call283 Tryz.func283 (chain [.c (vi:ae 113 [(iP 1)] _),.c (bZ _ _ ‹_› ‹_›:ae 37 [(ag d),(ag (Dy.mk false 1 0))] _),tB 12 (by simpa using h1:((aC d (Dy.mk false 1 0))==0)=false),
  .c (zC p 40 (by omega) (by omega)),.c (bS _ ‹_›:ae 130 [(ag d)] _),.c (pd d ‹_›),.c (pV (cG d) ‹_› (min (p+40) 512) (by omega) (by omega)),
  ar (0-(Dy.top d)) (by omega),.c (vk (cr (cG d) (min (p+40) 512)) ‹_› (0-(Dy.top d)) (by omega) (by omega)),.c (kf (-1) (by omega)),
  .c (na (min (p+40) 512) (cX (cr (cG d) (min (p+40) 512)) (0-(Dy.top d))) (aP (-1)) ‹_› ‹_› (by omega) (by omega)),.c (kf 1 (by omega)),
  .c (na (min (p+40) 512) (cX (cr (cG d) (min (p+40) 512)) (0-(Dy.top d))) (aP 1) ‹_› ‹_› (by omega) (by omega)),
  .c (rL (min (p+40) 512) (bj (cX (cr (cG d) (min (p+40) 512)) (0-(Dy.top d))) (aP (-1)) (min (p+40) 512)) (bj (cX (cr (cG d) (min (p+40) 512)) (0-(Dy.top d))) (aP 1) (min (p+40) 512)) ‹_› ‹_› (by omega) (by omega)),
  .c (hL:ae 309 [(.agg [(iP (((min (p+40) 512):Nat):Int))]),(ai (bU (bj (cX (cr (cG d) (min (p+40) 512)) (0-(Dy.top d))) (aP (-1)) (min (p+40) 512)) (bj (cX (cr (cG d) (min (p+40) 512)) (0-(Dy.top d))) (aP 1) (min (p+40) 512)) (min (p+40) 512)))] _),
  .c (kf (Dy.top d) (by omega)),.c (hL2:ae 311 [(iP (((min (p+40) 512):Nat):Int))] _),.c (uQ (min (p+40) 512) (aP (Dy.top d)) Y ‹_› ‹_› (by omega) (by omega)),
  .c (na (min (p+40) 512) Z (aU (aP (Dy.top d)) Y (min (p+40) 512)) ‹_› ‹_› (by omega) (by omega)),
  .c (pV (bj Z (aU (aP (Dy.top d)) Y (min (p+40) 512)) (min (p+40) 512)) ‹_› p (by omega) (by omega))] <| .nil) (by kernel_rfl)
theorem GK{d:Dy}(hd:d.Valid)(hq:0<d.q){p:Nat}(hp1:8<=p)(hp2:p<=512):∃ Z,Z.Valid/\oj (LQ d) Z/\ae 283 [ag d,iP (p:Int)] (ai Z):=by
 by_cases h1:aC d ⟨false,1,0⟩=0
 .refine ⟨kg,.inr ⟨rfl,fP,fP,nF _⟩,⟨0,fun M _=>?_⟩,TC d p hd h1 hp1 hp2⟩
  have e:d=⟨false,1,0⟩:=by
   refine PX hd.canon pr.canon (Rat.le_antisymm ((eG _ _).1 (by omega)) ((eG _ _).1 ?_));rw[qd];have:=qd d ⟨false,1,0⟩;omega
  rw[e,G4];exact .inr ⟨by show aI.q<=0;rw[iq];exact Rat.le_refl,by show 0<=aI.q;rw[iq];exact Rat.le_refl⟩
 .have hm:=pt hq
  obtain⟨t1,t2⟩:=Gm hd hm;obtain⟨P,hP⟩:∃ P,P=min (p+40) 512:=⟨_,rfl⟩
  have p1:8<=P:=by omega
  have p2:P<=512:=by omega
  obtain⟨z1,z2,z3⟩:=Oh hd hq p1 p2;obtain⟨Z,a1,a2,a3⟩:=GB z1 z3 p1 p2;obtain⟨Y,b1,b2,b3⟩:=Tx p1 p2;have m1:(aU (aP d.top) Y P).Valid:=iJ _ _ (by omega) (by omega);have m2:=gO a1 m1 (p:=P) (by omega) (by omega);refine⟨cr (bj Z (aU (aP d.top) Y P) P) p,pC m2 (by omega) (by omega),?_,?_⟩
  .have hz:=zF hq
   have ha:aD (lX d)*2<=1:=by
    have:=jN (x:=lX d) (b:=1/3) (by grind) (by grind)
    grind
   obtain⟨N1,c1⟩:=a2 _ z2 ha;obtain⟨N2,c2⟩:=b2;refine⟨max N1 N2,fun M hM=>ru m2 (by omega) (by omega) ?_⟩;exact nc a1 m1 (by omega) (by omega) (c1 M (by omega)) (tC (jD (by omega)) b1 (by omega) (by omega) (lF d.top) (c2 M (by omega)))
  .subst hP
   have e:ph d (min (p+40) 512)=bU (bj (cX (cr (cG d) (min (p+40) 512)) (0-(Dy.top d))) (aP (-1)) (min (p+40) 512)) (bj (cX (cr (cG d) (min (p+40) 512)) (0-(Dy.top d))) (aP 1) (min (p+40) 512)) (min (p+40) 512):=by unfold ph iG;rw[show -d.top=0-d.top by omega]
   rw[e]at a3;exact TD d p Z Y hd h1 (by omega) (by omega) a1 b1 a3 b3 hp1 hp2
theorem Tz(x:Iv)(p:Nat)(hx:x.Valid)(hp1:8<=p)(hp2:p<=512)(xa:x.all=true):ae 243 [(ai x),(iP p)] (ai an):=by
 exact tr true Tryz.call243 Tryz.func243 (chain [.c (oi x p ‹_› (by omega) (by omega)),tB 7 (by rw[xa];rfl:(!x.all)=false),.c du] <| .nil) (by kernel_rfl)
theorem TB(x:Iv)(p:Nat)(hx:x.Valid)(hp1:8<=p)(hp2:p<=512)(xa:x.all=false)(h1:x.lo.sign<=0):ae 243 [(ai x),(iP p)] (ai an):=by
 obtain⟨w1,w2⟩:=hx.ends;exact tr true Tryz.call243 Tryz.func243 (chain [.c (oi x p ‹_› (by omega) (by omega)),tB 7 (by rw[xa];rfl:(!x.all)=true),.c (dt _ ‹_›:ae 35 [(ag x.lo)] _),tB 13 (decide_eq_true h1),.c du] <| .nil) (by kernel_rfl)
theorem TA(x:Iv)(p:Nat)(hx:x.Valid)(hp1:8<=p)(hp2:p<=512)(xa:x.all=false)(h1:¬x.lo.sign<=0)(Z1 Z2:Iv)(z1:Z1.Valid)(z2:Z2.Valid)(k1:ae 283 [ag x.lo,iP (p:Int)] (ai Z1))(k2:ae 283 [ag x.hi,iP (p:Int)] (ai Z2)):ae 243 [(ai x),(iP p)] (ai (iS Z1 Z2)):=by
 obtain⟨w1,w2⟩:=hx.ends;exact tr true Tryz.call243 Tryz.func243 (chain [.c (oi x p ‹_› (by omega) (by omega)),tB 7 (by rw[xa];rfl:(!x.all)=true),.c (dt _ ‹_›:ae 35 [(ag x.lo)] _),tB 13 (decide_eq_false h1),
  .c (k1:ae 283 [(ag x.lo),(iP p)] _),.c (k2:ae 283 [(ag x.hi),(iP p)] _),.c (GJ Z1 Z2 ‹_› ‹_›)] <| .nil) (by kernel_rfl)
theorem zD{x:Iv}(hx:x.Valid){p:Nat}(hp1:8<=p)(hp2:p<=512):∃ Z,Z.Valid/\ae 243 [ai x,iP (p:Int)] (ai Z):=by
 cases xa:x.all with
 | true=>exact⟨an,cz,Tz x p hx hp1 hp2 xa⟩
 | false =>
  by_cases h1:x.lo.sign<=0
  .exact ⟨an,cz,TB x p hx hp1 hp2 xa h1⟩
  .obtain ⟨w1,w2⟩:=hx.ends
   have q1:0<x.lo.q:=(fW _).1.1 (by omega);have q2:0<x.hi.q:=by have:=hx.q;grind
   obtain⟨Z1,z1,⟨N1,l1⟩,k1⟩:=GK w1 q1 hp1 hp2;obtain⟨Z2,z2,⟨N2,l2⟩,k2⟩:=GK w2 q2 hp1 hp2;refine⟨iS Z1 Z2,Ca z1 z2 fun a b=>?_,TA x p hx hp1 hp2 xa h1 Z1 Z2 z1 z2 k1 k2⟩;have e1:=((l1 (max N1 N2) (by omega)).ends a).1;have e2:=((l2 (max N1 N2) (by omega)).ends b).2;have e3:=G3 q1 hx.q (max N1 N2);exact Rat.le_trans e1 (Rat.le_trans e3 e2)
open Go.RowKit Fp Pu
def isRoot(a s:Nat):Prop:=s*s<=a/\a<(s+1)*(s+1)
theorem Fi(a:Nat):∃ s,isRoot a s:=by
 induction a with
 | zero=>exact⟨0,by decide,by decide⟩
 | succ a ih =>
  obtain⟨s,h1,h2⟩:=ih;by_cases h:(s+1)*(s+1)<=a+1
  .refine ⟨s+1,h,?_⟩
   have:(s+1+1)*(s+1+1)=(s+1)*(s+1)+2*(s+1)+1:=by
    simp only[Nat.add_mul,Nat.mul_add,Nat.one_mul,Nat.mul_one];omega
   omega
  .exact ⟨s,by omega,by omega⟩
theorem Rc{a s t:Nat}(h:isRoot a s)(ht:t*t<=a):t<=s:=by
 apply Classical.byContradiction;intro hlt;have:=Nat.mul_le_mul (show s+1<=t by omega) (show s+1<=t by omega);have:=h.2;omega
def ey(a x:Nat):Nat:=(x+a/x)/2
theorem Pe{a s x:Nat}(h:isRoot a s)(hx:0<x):s<=ey a x:=by
 unfold ey;apply Classical.byContradiction;intro hlt;have h1:x+a/x<2*s:=by generalize a/x=q at *;omega
 have h2:a<(a/x+1)*x:=by
  have:=Nat.div_add_mod a x;have:=Nat.mod_lt a hx;rw[Nat.add_mul,Nat.one_mul,Nat.mul_comm (a/x)];omega
 have hq:a/x+1<=2*s-x/\x<=2*s:=by
  generalize a/x=q at *
  omega
 have h3:(a/x+1)*x<=(2*s-x)*x:=Nat.mul_le_mul_right x hq.1;have hxs2:=hq.2;have h4:(2*s-x)*x<=s*s:=by
  obtain⟨k,hk⟩:∃ k,2*s=x+k:=⟨2*s-x,by clear h1 h2 h3 hlt hq;omega⟩
  rw[show 2*s-x=k by clear h1 h2 h3 hlt hq;omega];clear h1 h2 h3 hlt hq;rcases Nat.le_total x s with hxs|hxs
  .obtain ⟨e,rfl⟩:∃ e,s=x+e:=⟨s-x,by omega⟩
   obtain rfl:k=x+2*e:=by omega
   simp only[Nat.add_mul,Nat.mul_add,Nat.mul_comm x e,Nat.mul_assoc];have:0<=e*e:=Nat.zero_le _;have e1:e*(2*x)=2*(e*x):=Nat.mul_left_comm e 2 x;omega
  .obtain ⟨e,rfl⟩:∃ e,x=s+e:=⟨x-s,by omega⟩
   obtain⟨f,hf⟩:∃ f,s=k+f:=⟨s-k,by omega⟩
   obtain rfl:f=e:=by omega
   subst hf;simp only[Nat.add_mul,Nat.mul_add,Nat.mul_comm f k];have:0<=f*f:=Nat.zero_le _;omega
 have:=h.1;omega
theorem Pd{a s x:Nat}(h:isRoot a s)(hx:0<x)(hs:s<=x)(hy:x<=ey a x):x=s:=by
 have h1:x<=a/x:=by unfold ey at hy;omega
 have h2:x*x<=a:=(Nat.le_div_iff_mul_le hx).1 h1;have:=Rc h h2;omega
def bI(a x:Nat):Nat->Nat
 | 0=>x
 | k+1=>ey a (bI a x k)
theorem Rd(a:Nat){s:Nat}(h:isRoot a s):s<=2^((aj a+1)/2):=by
 apply Classical.byContradiction;intro hlt;have h1:(2^((aj a+1)/2))*(2^((aj a+1)/2))<=s*s:=Nat.mul_le_mul (by omega) (by omega);rw[<-Nat.pow_add]at h1;have h2:=gl a;have h3:2^aj a<=2^((aj a+1)/2+(aj a+1)/2):=Nat.pow_le_pow_right (by decide) (by omega);have:=h.1;omega
theorem Rb{a x s:Nat}(h:isRoot a s)(ha:0<a)(hx:s<=x):∃ N,N<=x/\(∀ k,k<N->ey a (bI a x k)<bI a x k)/\bI a x N<=ey a (bI a x N)/\bI a x N=s/\∀ k,k<=N->s<=bI a x k/\bI a x k<=x:=by
 have hs:0<s:=by
  apply Classical.byContradiction;intro h0;obtain rfl:s=0:=by omega
  have:=h.2;omega
 have hge:∀ k,s<=bI a x k:=fun k=>by
  induction k with
  | zero=>exact hx
  | succ k ih=>exact Pe h (by omega)
 have hex:∃ k,k<x+1/\decide (bI a x k<=ey a (bI a x k))=true:=by
  apply Classical.byContradiction;intro hc;have hd:∀ k,k<x+1->ey a (bI a x k)<bI a x k:=fun k hk=>by
   apply Classical.byContradiction;intro q;exact hc ⟨k,hk,decide_eq_true (by omega)⟩
  have hb:∀ k,k<=x+1->bI a x k+k<=x:=by
   intro k hk
   induction k with
   | zero=>exact Nat.le_refl _
   | succ k ih =>
    have:=ih (by omega);have:=hd k (by omega);show ey a (bI a x k)+(k+1)<=x;omega
  have:=hb (x+1) (Nat.le_refl _);omega
 obtain⟨N,n1,n2,n3⟩:=gG hex;have n2':=of_decide_eq_true n2;have hlt:∀ k,k<N->ey a (bI a x k)<bI a x k:=fun k hk=>by
  have:=of_decide_eq_false (n3 k hk);omega
 have hle:∀ k,k<=N->bI a x k<=x:=by
  intro k hk
  induction k with
  | zero=>exact Nat.le_refl _
  | succ k ih =>
   have:=ih (by omega);have:=hlt k (by omega);show ey a (bI a x k)<=x;omega
 have e:=Pd h (by have:=hge N;omega) (hge N) n2';exact⟨N,by omega,hlt,n2',e,fun k hk=>⟨hge k,hle k hk⟩⟩
open Go.RowKit Fp Pu
def jd(m s:Nat)(e:Int)(p:Nat)(up:Bool):Dy:=bn false s e (decide (s*s≠m)) p up
def lN(m s:Nat)(e:Int)(p:Nat)(up:Bool):Int:=bd false s e (decide (s*s≠m)) p up
theorem R4{m s:Nat}{e:Int}{p:Nat}(h:isRoot m s)(hb:p<aj s)(hp:1<=p)(hp2:p<=4096)(he:lN m s e p false=0):0<=(jd m s e p false).q/\(jd m s e p false).q<=(s:Rat)*P2 e:=by
 unfold jd lN at *
 by_cases hx:s*s=m
 .rw [decide_eq_false (by omega)]at he ⊢
  have A:=qh false s e hp hp2;rw[fN]at A;simp only[Bool.false_eq_true,if_false]at A;exact⟨(A.2 0 (.inl (lZ p)) (Rat.mul_nonneg Rat.natCast_nonneg (Rat.le_of_lt (df e)))).2,(A.1 he).2⟩
 .rw [decide_eq_true (by omega)]at he ⊢
  obtain⟨h1,h2⟩:=oL e hb false false;rw[h1];rw[h2]at he;have A:=qh false (2*s+1) (e-1) hp hp2;rw[fN]at A;simp only[Bool.false_eq_true,if_false]at A;have h0:=(A.2 0 (.inl (lZ p)) (Rat.mul_nonneg Rat.natCast_nonneg (Rat.le_of_lt (df (e-1))))).2;obtain⟨g,hl⟩:=A.1 he;refine⟨h0,?_⟩;rcases wK (e:=e) hb (g.pos h0)with k|k
  .exact k
  .exfalso
   have ee:P2 e=P2 (e-1)*2:=by
    have:=fG (e-1) 1;rw[show e-1+1=e by omega,show P2 1=2 by decide +kernel]at this;exact this
   have hpp:=df (e-1);have c1:((2*s+1:Nat):Rat)=2*(s:Rat)+1:=by rw[Rat.natCast_add,Rat.natCast_mul];rfl
   have c2:((s+1:Nat):Rat)=(s:Rat)+1:=by rw[Rat.natCast_add];rfl
   rw[c1]at hl;rw[c2,ee]at k
   grind
theorem R3{m s:Nat}{e:Int}{p:Nat}(h:isRoot m s)(hb:p<aj s)(hp:1<=p)(hp2:p<=4096)(he:lN m s e p true=0):0<=(jd m s e p true).q/\(m:Rat)*(P2 e*P2 e)<=(jd m s e p true).q*(jd m s e p true).q:=by
 have hpp:=df e;have s0:(0:Rat)<=(s:Rat):=Rat.natCast_nonneg;have key:∀ D:Rat,(s:Rat)*P2 e<=D->(s*s≠m->((s+1:Nat):Rat)*P2 e<=D)->0<=D/\(m:Rat)*(P2 e*P2 e)<=D*D:=by
  intro D h1 h2;have d0:0<=D:=Rat.le_trans (Rat.mul_nonneg s0 (Rat.le_of_lt hpp)) h1;refine⟨d0,?_⟩;have sq:∀ t:Nat,m<=t*t->(t:Rat)*P2 e<=D->(m:Rat)*(P2 e*P2 e)<=D*D:=by
   intro t ht hD;have t0:(0:Rat)<=(t:Rat):=Rat.natCast_nonneg;have c:(m:Rat)<=(t:Rat)*(t:Rat):=by
    have:=Rat.natCast_le_natCast.2 ht;rwa[Rat.natCast_mul]at this
   have m1:=Rat.mul_le_mul_of_nonneg_right c (Rat.mul_nonneg (Rat.le_of_lt hpp) (Rat.le_of_lt hpp));have m2:=Rat.mul_le_mul_of_nonneg_right hD (Rat.mul_nonneg t0 (Rat.le_of_lt hpp));have m3:=Rat.mul_le_mul_of_nonneg_left hD d0;generalize (t:Rat)=T at *
   generalize P2 e=P at *
   have e1:T*T*(P*P)=T*P*(T*P):=by grind
   grind
  by_cases hx:s*s=m
  .exact sq s (by omega) h1
  .exact sq (s+1) (by have:=h.2;omega) (h2 hx)
 unfold jd lN at *
 by_cases hx:s*s=m
 .rw [decide_eq_false (by omega)]at he ⊢
  have A:=qi false s e hp hp2;rw[fN]at A;simp only[Bool.false_eq_true,if_false]at A;exact key _ (A.1 he).2 (fun q=>absurd hx q)
 .rw [decide_eq_true (by omega)]at he ⊢
  obtain⟨h1,h2⟩:=oL e hb false true;rw[h1];rw[h2]at he;have A:=qi false (2*s+1) (e-1) hp hp2;rw[fN]at A;simp only[Bool.false_eq_true,if_false]at A;obtain⟨g,hl⟩:=A.1 he;have ee:P2 e=P2 (e-1)*2:=by
   have:=fG (e-1) 1;rw[show e-1+1=e by omega,show P2 1=2 by decide +kernel]at this;exact this
  have hp1:=df (e-1);have c1:((2*s+1:Nat):Rat)=2*(s:Rat)+1:=by rw[Rat.natCast_add,Rat.natCast_mul];rfl
  rw[c1]at hl;have h0:0<=(bn false (2*s+1) (e-1) false p true).q:=Rat.le_trans (Rat.mul_nonneg (by grind) (Rat.le_of_lt hp1)) hl;have hlt:(s:Rat)*P2 e<(bn false (2*s+1) (e-1) false p true).q:=by rw[ee];grind
  refine key _ (Rat.le_of_lt hlt) fun _=>?_
  rcases wK (e:=e) hb (g.pos h0)with k|k
  .exact absurd hlt (Rat.not_lt.2 k)
  .exact k
theorem R5{a b:Rat}(ha:0<=a)(hb:0<=b)(h:a*a<=b*b):a<=b:=by
 apply Rat.not_lt.1;intro hlt;have m1:=Rat.mul_le_mul_of_nonneg_left (Rat.le_of_lt hlt) hb;have m2:=Rat.mul_lt_mul_of_pos_right hlt (show 0<a by grind)
 grind
theorem R6{m s n t:Nat}{e f:Int}{p:Nat}(h:isRoot m s)(k:isRoot n t)(hb:p<aj s)(kb:p<aj t)(hp:1<=p)(hp2:p<=4096)(hle:(m:Rat)*(P2 e*P2 e)<=(n:Rat)*(P2 f*P2 f)) :
  (ck (jd m s e p false) (lN m s e p false) (jd n t f p true) (lN n t f p true)).Valid:=by
 unfold ck;split
 .exact cz
 .rename_i he
  obtain⟨a0,a1⟩:=R4 (e:=e) h hb hp hp2 (by omega);obtain⟨b0,b1⟩:=R3 (e:=f) k kb hp hp2 (by omega);refine .inr ⟨rfl,ib _ _ _ _ _ _ hp hp2,ib _ _ _ _ _ _ hp hp2,?_⟩;rw[eG];refine R5 a0 b0 ?_;have s0:(0:Rat)<=(s:Rat):=Rat.natCast_nonneg;have hpp:=df e;have m1:=Rat.mul_le_mul_of_nonneg_left a1 a0
  have m2:=Rat.mul_le_mul_of_nonneg_right a1 (Rat.mul_nonneg s0 (Rat.le_of_lt hpp));have c:(s:Rat)*(s:Rat)<=(m:Rat):=by
   have:=Rat.natCast_le_natCast.2 h.1;rwa[Rat.natCast_mul]at this
  have m3:=Rat.mul_le_mul_of_nonneg_right c (Rat.mul_nonneg (Rat.le_of_lt hpp) (Rat.le_of_lt hpp));generalize (jd m s e p false).q=A at *
  generalize (s:Rat)=S at *
  generalize P2 e=P at *
  have e1:S*S*(P*P)=S*P*(S*P):=by grind
  grind
open Go.RowKit Fp Pu
def D2(m N:Nat)(x:Nat):PS:=⟨43,true,[(5,.e (ah (af (bI m (2^((aj m+1)/2)) x)))),(0,.e (ah (af m)))],[]⟩
theorem DP(L M:List Nat)(hL:ax L)(hM:ax M)(h1:L.length<=3000)(h2:M.length<=3000):∃ S:List Nat,ae 260 [ah L,ah M] (ah S)/\val S=val L+val M/\ax S/\S.length=max L.length M.length+1:=by
 obtain⟨n,hn⟩:∃ n,n=max L.length M.length+1:=⟨_,rfl⟩
 have hlt:val L+val M<4294967296^n:=by
  have a:=dP hL;have b:=dP hM;have e:4294967296^n=4294967296^max L.length M.length*4294967296:=by rw[hn,Nat.pow_succ]
  have c:=Nat.pow_le_pow_right (show 0<4294967296 by decide) (Nat.le_max_left L.length M.length);have d:=Nat.pow_le_pow_right (show 0<4294967296 by decide) (Nat.le_max_right L.length M.length);omega
 refine⟨eh (val L+val M) n,?_,by rw[rI,Nat.mod_eq_of_lt hlt],qk _ _,by rw[mq,hn]⟩;refine mI hL hM Tryz.call260 (fun A c B d w h k _=>D4 A B c d L M w h k h1 h2) fun B w e w' hB r=>?_
 obtain⟨S,v1,v2,v3,r⟩:=r;rw[vQ v2 (by rw[v3,hn]) v1];exact rl B w e w' hB r
theorem O4(L:List Nat)(n:Nat)(hL:ax L)(h1:L.length<=3000)(hn:n<=65536):∃ S:List Nat,ae 204 [ah L,iP (n:Int)] (ah S)/\val S=val L*2^n/\ax S:=by
 obtain⟨m,hm⟩:∃ m,m=n/32+(av L).length+1:=⟨_,rfl⟩
 have hlt:val L*2^n<4294967296^m:=by
  have a:=dP hL.av;rw[eO]at a;have e:4294967296^m=4294967296^(av L).length*2^(32*(n/32+1)):=by
   rw[hm,show n/32+(av L).length+1=(av L).length+(n/32+1)by omega,Nat.pow_add,Nat.pow_mul]
  rw[e];exact Nat.mul_lt_mul_of_lt_of_le a (Nat.pow_le_pow_right (by decide) (by omega)) (Nat.pow_pos (by decide))
 refine⟨eh (val L*2^n) m,?_,by rw[rI,Nat.mod_eq_of_lt hlt],qk _ _⟩;refine qZ hL Tryz.call204 (fun A c w h _=>D5 A c L n w h (by omega) hn) fun A c B w e w' h hB r=>?_
 obtain⟨S,v1,v2,v3,r⟩:=r;rw[vQ v2 (by rw[v3,hm]) v1];exact rl B w e w' hB r
def lM(L:List Nat):List Nat:=fi (1%32) ((av L).drop (1/32))
theorem D0(L:List Nat)(hL:ax L)(h1:L.length<=3000):ae 166 [ah L,iP 1] (ah (lM L)) :=
 qZ (n:=((1:Nat):Int)) hL Tryz.call166 (fun A c w h _=>xC A c L 1 w h (by omega) (by decide)) fun A c B w e w' h hB r=>rl B w e w' hB r
theorem FJ{L:List Nat}(hL:ax L):av (lM L)=af (val L/2):=by
 unfold lM;rw[fO (mG _ _),uN hL.av,eO]
theorem D9(m x:Nat):ey m x<=max x (m/x):=by
 unfold ey;generalize m/x=q;omega
theorem Dm(a b:Nat):(af (max a b)).length<=max (af a).length (af b).length:=by
 rcases Nat.le_total a b with h|h
 .rw [Nat.max_eq_right h];omega
 .rw [Nat.max_eq_left h];omega
theorem OX(m:Nat)(h:(af m).length<=256):ae 165 [ah (af m)] (.aq [ah (af m),iP 0]):=by
 have:=DS (af m) (cE m) (by rw[jg];exact h);rwa[jg]at this
theorem O6(m N:Nat)(h1:(af m).length<=256)(h0:m≠0)(hgo:∀ k,k<N->ey m (bI m (2^((aj m+1)/2)) k)<(bI m (2^((aj m+1)/2)) k))(hout:(bI m (2^((aj m+1)/2)) N)<=ey m (bI m (2^((aj m+1)/2)) N))(hin:∀ k,k<=N->0<(bI m (2^((aj m+1)/2)) k)/\(bI m (2^((aj m+1)/2)) k)<=(2^((aj m+1)/2))):ae 337 [(ah (af m))] (.aq [ah (af (bI m (2^((aj m+1)/2)) N)),iP 0]):=by
 have bm:=dZ h0;have bl:=nf h1;have z0:(af (2^((aj m+1)/2))).length<=256:=ej (by rw[show(2^((aj m+1)/2))=1*2^((aj m+1)/2)by omega,fI (by decide)];show 1+_<=_;omega);have hlen:∀ k,k<=N->(af (bI m (2^((aj m+1)/2)) k)).length<=256:=fun k hk=>Nat.le_trans (cK (hin k hk).2) z0
 obtain⟨S0,hSl,sv,oS0⟩:=O4 (af 1) ((aj m+1)/2) (cE 1) (by decide +kernel) (by omega);rw[bc,Nat.one_mul]at sv;have hS0:ae 167 [ah S0] (ah (af (2^((aj m+1)/2)))):=by
  have:=iK S0 oS0;rwa[fO oS0,sv]at this
 have zN:=hlen N (by omega);exact tr true Tryz.call337 Tryz.func337 (chain [.c (OY (af m) ‹_›),.c (gV _ (by omega):ae 194 [(ah (af m))] _),tB 15 (dW (by omega):((((aj m):Nat):Int)==0)=false),
  .o 16 (.e one_le:PV.le (.e (.sl false 1 1 fun i_ j_=>[(.v (.int .u32 1))].getD (i_*1+j_) (.v (.bool false)))) (.e (ah (af 1)))),ar ((((aj m):Nat):Int)+1) (by omega),.a (by omega:0<(2:Int)),
  ar (((((aj m)+1):Nat):Int)) (by omega),.c (hSl:ae 204 [(ah (af 1)),(iP (((((aj m)+1)/2):Nat):Int))] _),.c (hS0:ae 167 [(ah S0)] _),
  .s (Sp.upto (D2 m N) 0 N (by omega) (fun x hx hltx=>by
    obtain⟨xl,xu⟩:=hin x (by omega);obtain⟨Tq,Sq,hdv,dT,dS,oT,oS,lT,lS⟩:=xx (af m) (af (bI m (2^((aj m+1)/2)) x)) (cE m) (cE _) (by omega) (by have:=hlen x (by omega);omega) (by rw[bc];omega);rw[bc,bc]at dT;have zx:=hlen x (by omega);have hTq:ae 167 [ah Tq] (ah (af (m/(bI m (2^((aj m+1)/2)) x)))):=by
     have:=iK Tq oT;rwa[fO oT,dT]at this
    have zt:(af (m/(bI m (2^((aj m+1)/2)) x))).length<=257:=Nat.le_trans (cK (Nat.div_le_self _ _)) (by omega);obtain⟨Uq,hU,uv,oU,lU⟩:=DP (af (bI m (2^((aj m+1)/2)) x)) (af (m/(bI m (2^((aj m+1)/2)) x))) (cE _) (cE _) (by omega) (by omega);rw[bc,bc]at uv;have hV:=D0 Uq oU (by omega)
    have hTv:ae 167 [ah (lM Uq)] (ah (af (ey m (bI m (2^((aj m+1)/2)) x)))):=by
     have:=iK (lM Uq) (mG _ _);rwa[FJ oU,uv]at this
    have zn:(af (ey m (bI m (2^((aj m+1)/2)) x))).length<=257:=Nat.le_trans (cK (D9 m (bI m (2^((aj m+1)/2)) x))) (by have:=Dm (bI m (2^((aj m+1)/2)) x) (m/(bI m (2^((aj m+1)/2)) x));omega);exact aB (chain [.c (hdv:ae 319 [(ah (af m)),(ah (af (bI m (2^((aj m+1)/2)) x)))] _),.c (hTq:ae 167 [(ah Tq)] _),
     .c (hU:ae 260 [(ah (af (bI m (2^((aj m+1)/2)) x))),(ah (af (m/(bI m (2^((aj m+1)/2)) x))))] _),.c (hV:ae 166 [(ah Uq),(iP 1)] _),.c (hTv:ae 167 [(ah (lM Uq))] _),
     .c (lq _ _ (by omega) (by omega):ae 131 [(ah (af (ey m (bI m (2^((aj m+1)/2)) x)))),(ah (af (bI m (2^((aj m+1)/2)) x)))] _),
     tF 37 (0<=(bG (ey m (bI m (2^((aj m+1)/2)) x)) (bI m (2^((aj m+1)/2)) x))) (by have:=hgo x (by omega);have:=oK.2 this;omega)] <| .e (chain [.o 5 (.e (.of_eq rfl):PV.le (.e (ah (af (ey m (bI m (2^((aj m+1)/2)) x))))) (.e (ah (af (bI m (2^((aj m+1)/2)) (x+1))))))] <| .nil)) (by kernel_rfl))
  (fun hx=>by
    obtain⟨xl,xu⟩:=hin N (by omega);obtain⟨Tq,Sq,hdv,dT,dS,oT,oS,lT,lS⟩:=xx (af m) (af (bI m (2^((aj m+1)/2)) N)) (cE m) (cE _) (by omega) (by have:=hlen N (by omega);omega) (by rw[bc];omega);rw[bc,bc]at dT;have zx:=hlen N (by omega);have hTq:ae 167 [ah Tq] (ah (af (m/(bI m (2^((aj m+1)/2)) N)))):=by
     have:=iK Tq oT;rwa[fO oT,dT]at this
    have zt:(af (m/(bI m (2^((aj m+1)/2)) N))).length<=257:=Nat.le_trans (cK (Nat.div_le_self _ _)) (by omega);obtain⟨Uq,hU,uv,oU,lU⟩:=DP (af (bI m (2^((aj m+1)/2)) N)) (af (m/(bI m (2^((aj m+1)/2)) N))) (cE _) (cE _) (by omega) (by omega);rw[bc,bc]at uv;have hV:=D0 Uq oU (by omega)
    have hTv:ae 167 [ah (lM Uq)] (ah (af (ey m (bI m (2^((aj m+1)/2)) N)))):=by
     have:=iK (lM Uq) (mG _ _);rwa[FJ oU,uv]at this
    have zn:(af (ey m (bI m (2^((aj m+1)/2)) N))).length<=257:=Nat.le_trans (cK (D9 m (bI m (2^((aj m+1)/2)) N))) (by have:=Dm (bI m (2^((aj m+1)/2)) N) (m/(bI m (2^((aj m+1)/2)) N));omega);exact aB (chain [.c (hdv:ae 319 [(ah (af m)),(ah (af (bI m (2^((aj m+1)/2)) N)))] _),.c (hTq:ae 167 [(ah Tq)] _),
    .c (hU:ae 260 [(ah (af (bI m (2^((aj m+1)/2)) N))),(ah (af (m/(bI m (2^((aj m+1)/2)) N))))] _),.c (hV:ae 166 [(ah Uq),(iP 1)] _),.c (hTv:ae 167 [(ah (lM Uq))] _),
    .c (lq _ _ (by omega) (by omega):ae 131 [(ah (af (ey m (bI m (2^((aj m+1)/2)) N)))),(ah (af (bI m (2^((aj m+1)/2)) N)))] _),
    tT 37 (0<=(bG (ey m (bI m (2^((aj m+1)/2)) N)) (bI m (2^((aj m+1)/2)) N))) (by have:=hout;have:¬bG (ey m (bI m (2^((aj m+1)/2)) N)) (bI m (2^((aj m+1)/2)) N)<0:=fun q=>absurd (oK.1 q) (by omega);omega),
    .c (OX _ (by omega):ae 165 [(ah (af (bI m (2^((aj m+1)/2)) N)))] _)] <| .nil) (by kernel_rfl)) (by nofun):bA 7 Tryz.f337 (D2 m N 0) .ret ⟨43,true,[(3,.e (iP 0)),(2,.e (ah (af (bI m (2^((aj m+1)/2)) N))))],[]⟩) (chain [.o 5 (.e (.of_eq rfl):PV.le (.e (ah (af (2^((aj m+1)/2))))) (.e (ah (af (bI m (2^((aj m+1)/2)) 0)))))] <| .nil)] <| .nil) (by kernel_rfl)
theorem D3(m s:Nat)(h1:(af m).length<=256)(h0:m≠0)(hr:isRoot m s):ae 337 [ah (af m)] (.aq [ah (af s),iP 0]):=by
 obtain⟨N,_,a,b,c,d⟩:=Rb hr (Nat.pos_of_ne_zero h0) (Rd m hr);have hs:0<s:=by
  apply Classical.byContradiction;intro h;obtain rfl:s=0:=by omega
  have:=hr.2;omega
 have:=O6 m N h1 h0 a b fun k hk=>⟨by have:=(d k hk).1;omega,(d k hk).2⟩
 rwa[c]at this
noncomputable def ch(m:Nat):Nat:=Classical.choose (Fi m)
theorem nW(m:Nat):isRoot m (ch m):=Classical.choose_spec (Fi m)
def gY(d:Dy)(p:Nat):Nat:=if Int.tmod (d.e-(((2*p+4-aj d.m:Nat)):Int)) 2=0 then 2*p+4-aj d.m else 2*p+4-aj d.m+1
noncomputable def jf(d:Dy)(p:Nat)(up:Bool):Dy:=jd (d.m*2^gY d p) (ch (d.m*2^gY d p)) ((d.e-((gY d p:Nat):Int))/2) p up
noncomputable def je(d:Dy)(p:Nat)(up:Bool):Int:=lN (d.m*2^gY d p) (ch (d.m*2^gY d p)) ((d.e-((gY d p:Nat):Int))/2) p up
theorem uA(d:Dy)(p:Nat):d.e-((gY d p:Nat):Int)=2*((d.e-((gY d p:Nat):Int))/2):=by
 have key:∀ x:Int,Int.tmod x 2=0↔x%2=0:=fun x=>by rw[<-Int.dvd_iff_tmod_eq_zero,<-Int.dvd_iff_emod_eq_zero]
 have:(d.e-((gY d p:Nat):Int))%2=0:=by
  unfold gY;split
  .rename_i h;exact(key _).1 h
  .rename_i h
   have h2:¬(d.e-(((2*p+4-aj d.m:Nat)):Int))%2=0:=fun q=>h ((key _).2 q)
   clear h;omega
 omega
theorem FU(s:Nat):s<=s*s:=by
 by_cases h:s=0
 .subst h;exact Nat.zero_le _
 .exact Nat.le_mul_of_pos_left s (Nat.pos_of_ne_zero h)
theorem FW{d:Dy}(hn:d.neg=false)(K:Nat){E:Int}(h:d.e-(K:Int)=2*E):((d.m*2^K:Nat):Rat)*(P2 E*P2 E)=d.q:=by
 rw[eN,hn,if_neg (by decide),<-fG,Rat.natCast_mul,<-kP,Rat.mul_assoc,<-fG,show(K:Int)+(E+E)=d.e by omega]
theorem yA{m s p:Nat}(h:isRoot m s)(hm:2*p+4<=aj m):p<aj s:=by
 apply Classical.byContradiction;intro hb;have h1:s<2^aj s:=gl s;have h2:2^aj s<=2^p:=Nat.pow_le_pow_right (by decide) (by omega);have h3:=Nat.mul_le_mul (show s+1<=2^p by omega) (show s+1<=2^p by omega);rw[<-Nat.pow_add]at h3;have h4:=h.2;have h5:aj m<=p+p:=cC.2 (Nat.lt_of_lt_of_le h4 h3);omega
theorem Fj(m s:Nat):((bG (s*s) m) != 0)=decide (s*s≠m):=by
 unfold bG;generalize s*s=q;rcases Nat.lt_trichotomy q m with h|h|h
 .rw [if_pos h,decide_eq_true (by omega)];rfl
 .subst h;simp
 .rw [if_neg (by omega),if_pos h,decide_eq_true (by omega)];rfl
theorem Qt(d:Dy)(p:Nat)(up:Bool)(hd:d.Valid)(hn:d.neg=false)(h0:d.m≠0)(hp1:8<=p)(hp2:p<=512)(hev:Int.tmod (d.e-(((2*p+4-(aj d.m)):Nat):Int)) 2=0):ae 317 [(ag d),(iP p),(bP up)] (.aq [ag (jf d p up),iP (je d p up)]):=by
 have hl:=hd.af;have hx:=hd.exp;have hr:=hd.range.resolve_left h0;have bp:=dZ h0;have hK:gY d p=(2*p+4-(aj d.m)):=by unfold gY;rw[if_pos hev]
 have he:=uA d p;rw[hK]at he;have hb:=fI h0 (2*p+4-(aj d.m));have z1:(af (d.m*2^(2*p+4-(aj d.m)))).length<=256:=ej (by omega);have hM0:(d.m*2^(2*p+4-(aj d.m)))≠0:=Nat.mul_ne_zero h0 (Nat.ne_of_gt (Nat.pow_pos (by decide)));have hrt:=nW (d.m*2^(2*p+4-(aj d.m)));have hrb:=yA hrt (p:=p) (by omega)
 have z2:(af (ch (d.m*2^(2*p+4-(aj d.m)))*ch (d.m*2^(2*p+4-(aj d.m))))).length<=256:=Nat.le_trans (cK hrt.1) z1;have z3:(af (ch (d.m*2^(2*p+4-(aj d.m))))).length<=256:=Nat.le_trans (cK (Nat.le_trans (FU _) hrt.1)) z1
 have h00:ch (d.m*2^(2*p+4-(aj d.m)))≠0\/ch (d.m*2^(2*p+4-(aj d.m)))=0/\(d.e-(((2*p+4-(aj d.m)):Nat):Int))/2=0/\((bG (ch (d.m*2^(2*p+4-(aj d.m)))*ch (d.m*2^(2*p+4-(aj d.m)))) (d.m*2^(2*p+4-(aj d.m)))) != 0)=false:=.inl (fun q=>by rw[q,gQ]at hrb;omega)
 have hmm:((bG (ch (d.m*2^(2*p+4-(aj d.m)))*ch (d.m*2^(2*p+4-(aj d.m)))) (d.m*2^(2*p+4-(aj d.m)))) != 0)=true->p<aj (ch (d.m*2^(2*p+4-(aj d.m)))):=fun _=>hrb
 exact tr true Tryz.call317 Tryz.func317 (chain [.o 17 (.e (vY _):PV.le (.e (.sl true 1 3 fun i_ j_=>(aM d).getD (i_*3+j_) (.v (.bool false)))) (.e (dx [d]))),.c (yg _ _ ‹_› (by omega) (by omega):ae 177 [(iP p),(dx [d])] _),
  tB 20 (by decide:((0:Int)==0)=true),tB 23 (hn:d.neg=false),tB 26 (by decide:((0:Int) != 0)=false),tB 31 (dW (fA h0):((((af d.m).length:Nat):Int)==0)=false),
  ar (2*(p:Int)) (by omega),ar ((((2*p):Nat):Int)+4) (by omega),.c (sL _ ‹_›:ae 295 [(ag d)] _),ar (((((2*p)+4):Nat):Int)-(((aj (Dy.m d)):Nat):Int)) (by omega),
  .o 41 (.int (by split<;>omega):PV.le (.e (iP (if(((((2*p)+4):Nat):Int)-(((aj (Dy.m d)):Nat):Int))>0 then(((((2*p)+4):Nat):Int)-(((aj (Dy.m d)):Nat):Int))else 0))) (.e (iP (((2*p+4-(aj d.m)):Nat):Int)))),
  ar (d.e-(((2*p+4-(aj d.m)):Nat):Int)) (by omega),.a (by omega:0<(2:Int)),tB 47 ((by simpa using hev):((Int.tmod (d.e-(((2*p+4-(aj d.m)):Nat):Int)) 2) != 0)=false),
  .c (jH d.m (2*p+4-(aj d.m)) (by omega) (by omega) (by omega)),.c (D3 _ _ (by omega) ‹_› (nW _):ae 337 [(ah (af (d.m*2^(2*p+4-(aj d.m)))))] _),
  .c (lv _ _ (by omega) (by omega) (by omega):ae 181 [(ah (af (ch (d.m*2^(2*p+4-(aj d.m)))))),(ah (af (ch (d.m*2^(2*p+4-(aj d.m))))))] _),
  ar (d.e-(((2*p+4-(aj d.m)):Nat):Int)) (by omega),.a (by omega:0<(2:Int)),ar ((d.e-(((2*p+4-(aj d.m)):Nat):Int))) (by omega),
  .o 70 (.int (by generalize hy:(d.e-(((2*p+4-(aj d.m)):Nat):Int))/2=y at *;rw[he];exact Int.mul_tdiv_cancel_left _ (by decide)):PV.le (.e (iP (Int.tdiv (d.e-(((2*p+4-(aj d.m)):Nat):Int)) 2))) (.e (iP ((d.e-(((2*p+4-(aj d.m)):Nat):Int))/2)))),
  .c (lq _ _ (by omega) (by omega):ae 131 [(ah (af ((ch (d.m*2^(2*p+4-(aj d.m))))*(ch (d.m*2^(2*p+4-(aj d.m))))))),(ah (af (d.m*2^(2*p+4-(aj d.m)))))] _),
  .c (px _ _ _ _ _ (by omega) ‹_› (by omega) (by omega) (by omega) (by omega) ‹_›:ae 220 [(.agg [(ah (af (ch (d.m*2^(2*p+4-(aj d.m)))))),(iP ((d.e-(((2*p+4-(aj d.m)):Nat):Int))/2)),(bP ((bG ((ch (d.m*2^(2*p+4-(aj d.m))))*(ch (d.m*2^(2*p+4-(aj d.m))))) (d.m*2^(2*p+4-(aj d.m)))) != 0))]),(iP p),(bP up)] _)]<|rQ (.aq [(ag (bn false (ch (d.m*2^(2*p+4-(aj d.m)))) ((d.e-(((2*p+4-(aj d.m)):Nat):Int))/2) ((bG ((ch (d.m*2^(2*p+4-(aj d.m))))*(ch (d.m*2^(2*p+4-(aj d.m))))) (d.m*2^(2*p+4-(aj d.m)))) != 0) p up)),(iP (bd false (ch (d.m*2^(2*p+4-(aj d.m)))) ((d.e-(((2*p+4-(aj d.m)):Nat):Int))/2) ((bG ((ch (d.m*2^(2*p+4-(aj d.m))))*(ch (d.m*2^(2*p+4-(aj d.m))))) (d.m*2^(2*p+4-(aj d.m)))) != 0) p up))]) (.aq [ag (jf d p up),iP (je d p up)]) (by unfold jf je jd lN;rw[hK,Fj])) (by kernel_rfl)
theorem Qu(d:Dy)(p:Nat)(up:Bool)(hd:d.Valid)(hn:d.neg=false)(h0:d.m≠0)(hp1:8<=p)(hp2:p<=512)(hev:¬Int.tmod (d.e-(((2*p+4-(aj d.m)):Nat):Int)) 2=0):ae 317 [(ag d),(iP p),(bP up)] (.aq [ag (jf d p up),iP (je d p up)]):=by
 have hl:=hd.af;have hx:=hd.exp;have hr:=hd.range.resolve_left h0;have bp:=dZ h0;have hK:gY d p=((2*p+4-(aj d.m))+1):=by unfold gY;rw[if_neg hev]
 have he:=uA d p;rw[hK]at he;have hb:=fI h0 ((2*p+4-(aj d.m))+1);have z1:(af (d.m*2^((2*p+4-(aj d.m))+1))).length<=256:=ej (by omega);have hM0:(d.m*2^((2*p+4-(aj d.m))+1))≠0:=Nat.mul_ne_zero h0 (Nat.ne_of_gt (Nat.pow_pos (by decide)));have hrt:=nW (d.m*2^((2*p+4-(aj d.m))+1));have hrb:=yA hrt (p:=p) (by omega)
 have z2:(af (ch (d.m*2^((2*p+4-(aj d.m))+1))*ch (d.m*2^((2*p+4-(aj d.m))+1)))).length<=256:=Nat.le_trans (cK hrt.1) z1;have z3:(af (ch (d.m*2^((2*p+4-(aj d.m))+1)))).length<=256:=Nat.le_trans (cK (Nat.le_trans (FU _) hrt.1)) z1
 have h00:ch (d.m*2^((2*p+4-(aj d.m))+1))≠0\/ch (d.m*2^((2*p+4-(aj d.m))+1))=0/\(d.e-((((2*p+4-(aj d.m))+1):Nat):Int))/2=0/\((bG (ch (d.m*2^((2*p+4-(aj d.m))+1))*ch (d.m*2^((2*p+4-(aj d.m))+1))) (d.m*2^((2*p+4-(aj d.m))+1))) != 0)=false:=.inl (fun q=>by rw[q,gQ]at hrb;omega)
 have hmm:((bG (ch (d.m*2^((2*p+4-(aj d.m))+1))*ch (d.m*2^((2*p+4-(aj d.m))+1))) (d.m*2^((2*p+4-(aj d.m))+1))) != 0)=true->p<aj (ch (d.m*2^((2*p+4-(aj d.m))+1))):=fun _=>hrb
 exact tr true Tryz.call317 Tryz.func317 (chain [.o 17 (.e (vY _):PV.le (.e (.sl true 1 3 fun i_ j_=>(aM d).getD (i_*3+j_) (.v (.bool false)))) (.e (dx [d]))),.c (yg _ _ ‹_› (by omega) (by omega):ae 177 [(iP p),(dx [d])] _),
  tB 20 (by decide:((0:Int)==0)=true),tB 23 (hn:d.neg=false),tB 26 (by decide:((0:Int) != 0)=false),tB 31 (dW (fA h0):((((af d.m).length:Nat):Int)==0)=false),
  ar (2*(p:Int)) (by omega),ar ((((2*p):Nat):Int)+4) (by omega),.c (sL _ ‹_›:ae 295 [(ag d)] _),ar (((((2*p)+4):Nat):Int)-(((aj (Dy.m d)):Nat):Int)) (by omega),
  .o 41 (.int (by split<;>omega):PV.le (.e (iP (if(((((2*p)+4):Nat):Int)-(((aj (Dy.m d)):Nat):Int))>0 then(((((2*p)+4):Nat):Int)-(((aj (Dy.m d)):Nat):Int))else 0))) (.e (iP (((2*p+4-(aj d.m)):Nat):Int)))),
  ar (d.e-(((2*p+4-(aj d.m)):Nat):Int)) (by omega),.a (by omega:0<(2:Int)),tB 47 ((by simpa using hev):((Int.tmod (d.e-(((2*p+4-(aj d.m)):Nat):Int)) 2) != 0)=true),
  ar ((((2*p+4-(aj d.m)):Nat):Int)+1) (by omega),.c (jH d.m ((2*p+4-(aj d.m))+1) (by omega) (by omega) (by omega)),
  .c (D3 _ _ (by omega) ‹_› (nW _):ae 337 [(ah (af (d.m*2^((2*p+4-(aj d.m))+1))))] _),
  .c (lv _ _ (by omega) (by omega) (by omega):ae 181 [(ah (af (ch (d.m*2^((2*p+4-(aj d.m))+1))))),(ah (af (ch (d.m*2^((2*p+4-(aj d.m))+1)))))] _),
  ar (d.e-((((2*p+4-(aj d.m))+1):Nat):Int)) (by omega),.a (by omega:0<(2:Int)),ar ((d.e-((((2*p+4-(aj d.m))+1):Nat):Int))) (by omega),
  .o 70 (.int (by generalize hy:(d.e-((((2*p+4-(aj d.m))+1):Nat):Int))/2=y at *;rw[he];exact Int.mul_tdiv_cancel_left _ (by decide)):PV.le (.e (iP (Int.tdiv (d.e-((((2*p+4-(aj d.m))+1):Nat):Int)) 2))) (.e (iP ((d.e-((((2*p+4-(aj d.m))+1):Nat):Int))/2)))),
  .c (lq _ _ (by omega) (by omega):ae 131 [(ah (af ((ch (d.m*2^((2*p+4-(aj d.m))+1)))*(ch (d.m*2^((2*p+4-(aj d.m))+1)))))),(ah (af (d.m*2^((2*p+4-(aj d.m))+1))))] _),
  .c (px _ _ _ _ _ (by omega) ‹_› (by omega) (by omega) (by omega) (by omega) ‹_›:ae 220 [(.agg [(ah (af (ch (d.m*2^((2*p+4-(aj d.m))+1))))),(iP ((d.e-((((2*p+4-(aj d.m))+1):Nat):Int))/2)),(bP ((bG ((ch (d.m*2^((2*p+4-(aj d.m))+1)))*(ch (d.m*2^((2*p+4-(aj d.m))+1)))) (d.m*2^((2*p+4-(aj d.m))+1))) != 0))]),(iP p),(bP up)] _)]<|rQ (.aq [(ag (bn false (ch (d.m*2^((2*p+4-(aj d.m))+1))) ((d.e-((((2*p+4-(aj d.m))+1):Nat):Int))/2) ((bG ((ch (d.m*2^((2*p+4-(aj d.m))+1)))*(ch (d.m*2^((2*p+4-(aj d.m))+1)))) (d.m*2^((2*p+4-(aj d.m))+1))) != 0) p up)),(iP (bd false (ch (d.m*2^((2*p+4-(aj d.m))+1))) ((d.e-((((2*p+4-(aj d.m))+1):Nat):Int))/2) ((bG ((ch (d.m*2^((2*p+4-(aj d.m))+1)))*(ch (d.m*2^((2*p+4-(aj d.m))+1)))) (d.m*2^((2*p+4-(aj d.m))+1))) != 0) p up))]) (.aq [ag (jf d p up),iP (je d p up)]) (by unfold jf je jd lN;rw[hK,Fj])) (by kernel_rfl)
theorem EP(d:Dy)(p:Nat)(up:Bool)(hd:d.Valid)(hn:d.neg=false)(h0:d.m≠0)(hp1:8<=p)(hp2:p<=512):ae 317 [(ag d),(iP p),(bP up)] (.aq [ag (jf d p up),iP (je d p up)]):=by
 by_cases h:Int.tmod (d.e-(((2*p+4-(aj d.m)):Nat):Int)) 2=0
 .exact Qt d p up hd hn h0 hp1 hp2 h
 .exact Qu d p up hd hn h0 hp1 hp2 h
theorem Qr(d:Dy)(p:Nat)(hd:d.Valid)(hn:d.neg=false)(h0:d.m≠0)(hp1:8<=p)(hp2:p<=512):ae 285 [(ag d),(iP p)] (.aq [ag (jf d p false),iP (je d p false)]):=by
 exact tr true Tryz.call285 Tryz.func285 (chain [.c (EP _ _ _ ‹_› ‹_› ‹_› (by omega) (by omega):ae 317 [(ag d),(iP p),(bP false)] _)] <| .nil) (by kernel_rfl)
theorem Qs(d:Dy)(p:Nat)(hd:d.Valid)(hn:d.neg=false)(h0:d.m≠0)(hp1:8<=p)(hp2:p<=512):ae 286 [(ag d),(iP p)] (.aq [ag (jf d p true),iP (je d p true)]):=by
 exact tr true Tryz.call286 Tryz.func286 (chain [.c (EP _ _ _ ‹_› ‹_› ‹_› (by omega) (by omega):ae 317 [(ag d),(iP p),(bP true)] _)] <| .nil) (by kernel_rfl)
theorem Nt(x:Iv)(p:Nat)(hx:x.Valid)(hp1:8<=p)(hp2:p<=512)(xa:x.all=true):ae 246 [(ai x),(iP p)] (ai an):=by
 exact tr true Tryz.call246 Tryz.func246 (chain [.o 10 (.e (di _):PV.le (.e (.sl true 1 7 fun i_ j_=>(aE x).getD (i_*7+j_) (.v (.bool false)))) (.e (ak [x]))),.c (eI _ ‹_›:ae 86 [(ak [x])] _),tB 11 (by rw[xa];rfl:(!x.all)=false),
  .c du] <| .nil) (by kernel_rfl)
theorem Nu(x:Iv)(p:Nat)(hx:x.Valid)(hp1:8<=p)(hp2:p<=512)(xa:x.all=false)(h1:x.lo.sign<=0):ae 246 [(ai x),(iP p)] (ai an):=by
 obtain⟨w1,w2⟩:=hx.ends;exact tr true Tryz.call246 Tryz.func246 (chain [.o 10 (.e (di _):PV.le (.e (.sl true 1 7 fun i_ j_=>(aE x).getD (i_*7+j_) (.v (.bool false)))) (.e (ak [x]))),.c (eI _ ‹_›:ae 86 [(ak [x])] _),tB 11 (by rw[xa];rfl:(!x.all)=true),
  .c (jy _:ae 87 [(iP p)] _),tB 15 (fU.2 ⟨by omega,by omega⟩:(cw (p:Int))=true),.c (dt _ ‹_›:ae 35 [(ag x.lo)] _),tB 22 (decide_eq_true h1),.c du] <| .nil) (by kernel_rfl)
theorem Nv(x:Iv)(p:Nat)(hx:x.Valid)(hp1:8<=p)(hp2:p<=512)(xa:x.all=false)(h1:¬x.lo.sign<=0)(n1:x.lo.neg=false)(n2:x.hi.neg=false)(m1:x.lo.m≠0)(m2:x.hi.m≠0):ae 246 [(ai x),(iP p)] (ai (ck (jf x.lo p false) (je x.lo p false) (jf x.hi p true) (je x.hi p true))):=by
 obtain⟨w1,w2⟩:=hx.ends;exact tr true Tryz.call246 Tryz.func246 (chain [.o 10 (.e (di _):PV.le (.e (.sl true 1 7 fun i_ j_=>(aE x).getD (i_*7+j_) (.v (.bool false)))) (.e (ak [x]))),.c (eI _ ‹_›:ae 86 [(ak [x])] _),tB 11 (by rw[xa];rfl:(!x.all)=true),
  .c (jy _:ae 87 [(iP p)] _),tB 15 (fU.2 ⟨by omega,by omega⟩:(cw (p:Int))=true),.c (dt _ ‹_›:ae 35 [(ag x.lo)] _),tB 22 (decide_eq_false h1),
  .c (Qr _ _ ‹_› ‹_› ‹_› (by omega) (by omega):ae 285 [(ag x.lo),(iP p)] _),
  .c (Qs _ _ ‹_› ‹_› ‹_› (by omega) (by omega):ae 286 [(ag x.hi),(iP p)] _),.c (nC (jf x.lo p false) (jf x.hi p true) (je x.lo p false) (je x.hi p true))] <| .nil) (by kernel_rfl)
theorem Et{d:Dy}(h:0<d.q):d.neg=false/\d.m≠0:=by
 have hm:d.m≠0:=fun q=>by rw[eN,q]at h;simp at h
 refine⟨?_,hm⟩;cases hn:d.neg
 .rfl
 .rw [eN,hn,if_pos rfl]at h
  have:=Rat.mul_nonneg (show(0:Rat)<=(d.m:Rat)from Rat.natCast_nonneg) (Rat.le_of_lt (df d.e))
  grind
theorem FT{d:Dy}{p:Nat}(hp1:8<=p)(h0:d.m≠0):p<aj (ch (d.m*2^gY d p)):=by
 refine yA (nW _) ?_;rw[fI h0];unfold gY;split<;>omega
theorem w8{x:Iv}(hx:x.Valid){p:Nat}(hp1:8<=p)(hp2:p<=512):∃ Z,Z.Valid/\ae 246 [ai x,iP (p:Int)] (ai Z):=by
 cases xa:x.all with
 | true=>exact⟨an,cz,Nt x p hx hp1 hp2 xa⟩
 | false =>
  by_cases h1:x.lo.sign<=0
  .exact ⟨an,cz,Nu x p hx hp1 hp2 xa h1⟩
  .have q1:0<x.lo.q:=(fW _).1.1 (by omega)
   have q2:0<x.hi.q:=by have:=hx.q;grind
   obtain⟨n1,m1⟩:=Et q1;obtain⟨n2,m2⟩:=Et q2;refine⟨_,?_,Nv x p hx hp1 hp2 xa h1 n1 n2 m1 m2⟩;refine R6 (nW _) (nW _) (FT hp1 m1) (FT hp1 m2) (by omega) (by omega) ?_;rw[FW n1 _ (uA _ _),FW n2 _ (uA _ _)];exact hx.q
open Go.RowKit Fp Pu
def aQ(X b:Nat):Nat->Nat
 | 0=>2^b
 | k+1=>aQ X b k*X/2^b/(k+1)
theorem Cu{X b:Nat}(h:X<=2^(b+1))(t:Nat):t*X/2^b<=2*t:=by
 have hp:0<2^b:=Nat.pow_pos (by decide);have h1:t*X<=t*(2^b*2):=Nat.mul_le_mul_left t (by rw[<-Nat.pow_succ];exact h);have h2:t*X/2^b<=t*(2^b*2)/2^b:=Nat.div_le_div_right h1;have h3:t*(2^b*2)/2^b=2*t:=by
  rw[show t*(2^b*2)=2^b*(2*t)by rw[Nat.mul_left_comm,Nat.mul_comm t 2]];exact Nat.mul_div_cancel_left _ hp
 omega
theorem qt{X b:Nat}(h:X<=2^(b+1)):∀ k,aQ X b k<=2^(b+1)
 | 0=>by show 2^b<=2^(b+1);rw[Nat.pow_succ];omega
 | 1=>by
  show 2^b*X/2^b/1<=_;rw[Nat.div_one,Nat.mul_div_cancel_left _ (Nat.pow_pos (by decide))];exact h
 | k+2=>by
  have ih:=qt h (k+1);have h1:=Cu h (aQ X b (k+1));show aQ X b (k+1)*X/2^b/(k+2)<=_;have h2:aQ X b (k+1)*X/2^b/(k+2)<=aQ X b (k+1)*X/2^b/2:=Nat.div_le_div_left (by omega) (by decide);omega
theorem L5{X b:Nat}(h:X<=2^(b+1))(k:Nat)(hk:3<=k):aQ X b (k+1)*2<=aQ X b k:=by
 have h1:=Cu h (aQ X b k);have h2:aQ X b (k+1)<=aQ X b k*X/2^b/4:=Nat.div_le_div_left (by omega) (by decide);omega
theorem Ct{X b:Nat}(h:X<=2^(b+1)):∀ j,aQ X b (3+j)*2^j<=2^(b+1)
 | 0=>by rw[Nat.pow_zero,Nat.mul_one];exact qt h 3
 | j+1=>by
  have ih:=Ct h j;have h1:=L5 h (3+j) (by omega);have h2:=Nat.mul_le_mul_right (2^j) h1;rw[Nat.pow_succ,show aQ X b (3+(j+1))*(2^j*2)=aQ X b (3+j+1)*2*2^j by rw[Nat.mul_assoc,Nat.mul_comm 2 (2^j)];rfl];omega
theorem L6{X b:Nat}(h:X<=2^(b+1)):∃ N,1<=N/\N<=b+5/\(∀ k,k<N->aQ X b k≠0)/\aQ X b N=0:=by
 have hz:aQ X b (3+(b+2))=0:=by
  have h1:=Ct h (b+2);apply Classical.byContradiction;intro hne;have h2:2^(b+2)<=aQ X b (3+(b+2))*2^(b+2):=Nat.le_mul_of_pos_left _ (Nat.pos_of_ne_zero hne);have h3:2^(b+2)=2^(b+1)*2:=Nat.pow_succ (n:=2) (m:=b+1);have h4:0<2^(b+1):=Nat.pow_pos (by decide);omega
 obtain⟨N,n1,n2,n3⟩:=gG (p:=fun k=>decide (aQ X b k=0)) (n:=b+6) ⟨3+(b+2),by omega,decide_eq_true hz⟩;have n2':=of_decide_eq_true n2;refine⟨N,?_,by omega,fun k hk=>of_decide_eq_false (n3 k hk),n2'⟩;rcases N with _|N
 .have:0<2^b:=Nat.pow_pos (by decide)
  have e:2^b=0:=n2';omega
 .omega
theorem MW{f:Nat->Nat}{B:Nat}(h0:f 0<2^B)(h:∀ k,f (k+1)*2<=f k):∃ N,N<=B/\(∀ k,k<N->f k≠0)/\f N=0:=by
 have hp:∀ k,f k*2^k<=f 0:=by
  intro k
  induction k with
  | zero=>rw[Nat.pow_zero,Nat.mul_one];exact Nat.le_refl _
  | succ k ih =>
   have:=Nat.mul_le_mul_right (2^k) (h k);rw[Nat.pow_succ,show f (k+1)*(2^k*2)=f (k+1)*2*2^k by rw[Nat.mul_assoc,Nat.mul_comm 2 (2^k)]];omega
 have hz:f B=0:=by
  apply Classical.byContradiction;intro hne;have h2:2^B<=f B*2^B:=Nat.le_mul_of_pos_left _ (Nat.pos_of_ne_zero hne);have:=hp B;omega
 obtain⟨N,n1,n2,n3⟩:=gG (p:=fun k=>decide (f k=0)) (n:=B+1) ⟨B,by omega,decide_eq_true hz⟩;exact⟨N,by omega,fun k hk=>of_decide_eq_false (n3 k hk),of_decide_eq_true n2⟩
def aT(a b:Bool×Nat):Bool×Nat:=if a.1=b.1 then(a.1,a.2+b.2)else if a.2<b.2 then(b.1,b.2-a.2)else(a.1,a.2-b.2)
def ev(a:Bool×Nat):Int:=if a.1 then -(a.2:Int)else(a.2:Int)
theorem wF(a b:Bool×Nat):ev (aT a b)=ev a+ev b:=by
 obtain⟨s,m⟩:=a;obtain⟨t,n⟩:=b;unfold aT ev;cases s<;>cases t<;>simp<;>(try split)<;>(try simp)<;>omega
theorem kv(a b:Bool×Nat):(aT a b).2<=a.2+b.2:=by
 unfold aT;split
 .exact Nat.le_refl _
 .split
  .show b.2-a.2<=_;omega
  .show a.2-b.2<=_;omega
open Go.RowKit Fp Pu
def mw(a:Bool×Nat)(b:Nat):Dy:=canon a.1 a.2 (-(b:Int))
theorem Cs(a:Bool×Nat)(b:Nat):(mw a b).q=(ev a:Rat)*P2 (-(b:Int)):=by
 unfold mw ev;rw[fN];cases a.1
 .simp only[Bool.false_eq_true,if_false];rw[Rat.intCast_natCast]
 .simp only[if_true];rw[Rat.intCast_neg,Rat.intCast_natCast];grind
def s6(a:Bool×Nat):Bool×Nat:=aT a (true,16777216)
def s5(a:Bool×Nat):Bool×Nat:=aT a (false,16777216)
def gW(a:Bool×Nat)(b p:Nat):Iv:=ck (bq (mw (s6 a) b) p false) (bg (mw (s6 a) b) p false) (bq (mw (s5 a) b) p true) (bg (mw (s5 a) b) p true)
theorem Pb(a:Bool×Nat)(b:Nat){p:Nat}(hp:1<=p)(hp2:p<=4096):(gW a b p).Valid:=by
 unfold gW ck;split
 .exact cz
 .rename_i he
  have c1:(mw (s6 a) b).Canon:=gR _ _ _;have c2:(mw (s5 a) b).Canon:=gR _ _ _;have A:=jY c1 hp hp2;have B:=jZ c2 hp hp2;refine .inr ⟨rfl,dX _ hp hp2 _,dX _ hp hp2 _,?_⟩;rw[eG];refine Rat.le_trans (A.1 (by omega)).2 (Rat.le_trans ?_ (B.1 (by omega)).2);rw[Cs,Cs,jC,Rat.intCast_le_intCast];unfold s6 s5;rw[wF,wF];simp[ev]
open Go.RowKit Fp Pu
theorem mj(m n:Nat)(h1:(af m).length<=256)(h2:n<=65536)(h3:(af (m*2^n)).length<=256):ae 329 [(ah (af m)),(iP n)] (ah (af (m*2^n))):=by
 exact tr true Tryz.call329 Tryz.func329 (chain [.c (DZ _ _ ‹_› (by omega) ‹_›:ae 168 [(ah (af m)),(iP n)] _)] <| .nil) (by kernel_rfl)
theorem jP(m n:Nat)(h1:(af m).length<=256)(h2:n<=65536):ae 330 [(ah (af m)),(iP n)] (ah (af (m/2^n))):=by
 exact tr true Tryz.call330 Tryz.func330 (chain [.c (xA _ _ ‹_› (by omega):ae 127 [(ah (af m)),(iP n)] _)] <| .nil) (by kernel_rfl)
theorem vv(m:Nat)(z:Int)(h1:(af m).length<=256)(h2:0<=z)(h3:z<=65536)(h4:(af (m*2^z.toNat)).length<=256):ae 329 [ah (af m),iP z] (ah (af (m*2^z.toNat))):=by
 have:=mj m z.toNat h1 (by omega) h4;rwa[show(z.toNat:Int)=z by omega]at this
theorem JR(m:Nat)(z:Int)(h1:(af m).length<=256)(h2:0<=z)(h3:z<=65536):ae 330 [ah (af m),iP z] (ah (af (m/2^z.toNat))):=by
 have:=jP m z.toNat h1 (by omega);rwa[show(z.toNat:Int)=z by omega]at this
theorem cg{m k:Nat}(h:m<2^k)(hk:k<=8192):(af m).length<=256:=ej (Nat.le_trans (cC.2 h) hk)
theorem ik{n:Nat}(h:n<4294967296):(af n).length<=256:=cg (k:=32) h (by decide)
theorem Nd(n:Nat):(ay n).neg=false/\0<=(ay n).e/\(ay n).m*2^(ay n).e.toNat=n/\(ay n).m<=n:=by
 by_cases h:n=0
 .subst h;decide
 .have e1:(ay (n:Int))=canon false n 0:=mC n
  have e2:canon false n 0=⟨false,n/2^aX n,(aX n:Int)⟩:=by unfold canon;rw[if_neg h];simp
  rw[e1,e2];refine⟨rfl,Int.natCast_nonneg _,?_,Nat.div_le_self _ _⟩;show n/2^aX n*2^(aX n:Int).toNat=n;rw[Int.toNat_natCast];exact qm h
theorem vz(n:Nat)(h:n<4294967296):ae 331 [(iP n)] (.agg [(bP false),(ah (af n))]):=by
 obtain⟨p1,p2,p3,p4⟩:=Nd n;have hv:=wU n h;have he:=hv.exp;have z1:=hv.af;have z2:(af ((ay n).m*2^(Int.toNat (ay n).e))).length<=256:=by rw[p3];exact ik h
 exact tr true Tryz.call331 Tryz.func331 (chain [.c (vj n (by omega)),.c (vv _ _ ‹_› (by omega) (by omega) ‹_›:ae 329 [(ah (af ((ay (n:Int)).m))),(iP ((ay (n:Int)).e))] _)]<|rQ (.agg [(bP ((ay (n:Int)).neg)),(ah (af (((ay (n:Int)).m)*2^(Int.toNat ((ay (n:Int)).e)))))]) (.agg [(bP false),(ah (af n))]) (by rw[p1,p3])) (by kernel_rfl)
theorem IP(m:Nat):(((aj m:Nat):Int)==0)=decide (m=0):=by
 by_cases h:m=0
 .subst h;rw[gQ];rfl
 .have:=dZ h
  rw[decide_eq_false h];exact dW (by omega)
theorem ku(a:Bool×Nat)(ha:(af a.2).length<=256):ae 336 [(.agg [(bP a.1),(ah (af a.2))])] (bP (decide (a.2=0))):=by
 exact tr true Tryz.call336 Tryz.func336 (chain [.c (gV _ (by omega):ae 194 [(ah (af a.2))] _)]<|rQ (bP (((aj a.2:Nat):Int)==0)) (bP (decide (a.2=0))) (by rw[IP])) (by kernel_rfl)
theorem jt(a:Bool×Nat):ae 326 [(.agg [(bP a.1),(ah (af a.2))])] (.agg [(bP (!a.1)),(ah (af a.2))]):=by
 exact tr true Tryz.call326 Tryz.func326 (.nil) (by kernel_rfl)
theorem Lz(a:Bool×Nat)(ha:(af a.2).length<=256)(b:Bool×Nat)(hb:(af b.2).length<=256)(h:a.1=b.1)(hs:(af (a.2+b.2)).length<=256):ae 335 [(.agg [(bP a.1),(ah (af a.2))]),(.agg [(bP b.1),(ah (af b.2))])] (.agg [(bP a.1),(ah (af (a.2+b.2)))]):=by
 exact tr true Tryz.call335 Tryz.func335 (chain [tB 13 (by rw[h];simp:(a.1==b.1)=true),.c (tD _ _ ‹_› ‹_› ‹_›:ae 218 [(ah (af a.2)),(ah (af b.2))] _)] <| .nil) (by kernel_rfl)
theorem Lx(a:Bool×Nat)(ha:(af a.2).length<=256)(b:Bool×Nat)(hb:(af b.2).length<=256)(h:¬a.1=b.1)(h2:a.2<b.2):ae 335 [(.agg [(bP a.1),(ah (af a.2))]),(.agg [(bP b.1),(ah (af b.2))])] (.agg [(bP b.1),(ah (af (b.2-a.2)))]):=by
 exact tr true Tryz.call335 Tryz.func335 (chain [tB 13 (by simpa using h:(a.1==b.1)=false),.c (lq _ _ (by omega) (by omega):ae 131 [(ah (af a.2)),(ah (af b.2))] _),tT 31 ((bG a.2 b.2)<0) (oK.2 h2),
  .c (qR _ _ ‹_› ‹_› (by omega):ae 219 [(ah (af b.2)),(ah (af a.2))] _)] <| .nil) (by kernel_rfl)
theorem Ly(a:Bool×Nat)(ha:(af a.2).length<=256)(b:Bool×Nat)(hb:(af b.2).length<=256)(h:¬a.1=b.1)(h2:¬a.2<b.2):ae 335 [(.agg [(bP a.1),(ah (af a.2))]),(.agg [(bP b.1),(ah (af b.2))])] (.agg [(bP a.1),(ah (af (a.2-b.2)))]):=by
 exact tr true Tryz.call335 Tryz.func335 (chain [tB 13 (by simpa using h:(a.1==b.1)=false),.c (lq _ _ (by omega) (by omega):ae 131 [(ah (af a.2)),(ah (af b.2))] _),tF 31 ((bG a.2 b.2)<0) fun q=>h2 (oK.1 q),
  .c (qR _ _ ‹_› ‹_› (by omega):ae 219 [(ah (af a.2)),(ah (af b.2))] _)] <| .nil) (by kernel_rfl)
theorem ig(a:Bool×Nat)(ha:(af a.2).length<=256)(b:Bool×Nat)(hb:(af b.2).length<=256)(hs:(af (a.2+b.2)).length<=256):ae 335 [(.agg [(bP a.1),(ah (af a.2))]),(.agg [(bP b.1),(ah (af b.2))])] (.agg [(bP ((aT a b).1)),(ah (af ((aT a b).2)))]):=by
 unfold aT;split
 .rename_i h;exact Lz a ha b hb h hs
 .rename_i h
  split
  .rename_i h2;exact Lx a ha b hb h h2
  .rename_i h2;exact Ly a ha b hb h h2
theorem oX(a:Bool×Nat)(ha:(af a.2).length<=256)(c:Bool×Nat)(hc:(af c.2).length<=256)(b:Nat)(hb:b<=65536)(hm:(af (a.2*c.2)).length<=256):ae 332 [(.agg [(bP a.1),(ah (af a.2))]),(.agg [(bP c.1),(ah (af c.2))]),(iP b)] (.agg [(bP (a.1 != c.1)),(ah (af (a.2*c.2/2^b)))]):=by
 exact tr true Tryz.call332 Tryz.func332 (chain [.c (lv _ _ ‹_› ‹_› ‹_›:ae 181 [(ah (af a.2)),(ah (af c.2))] _),.c (jP _ _ ‹_› (by omega):ae 330 [(ah (af (a.2*c.2))),(iP b)] _)] <| .nil) (by kernel_rfl)
theorem lg(a:Bool×Nat)(ha:(af a.2).length<=256)(n:Nat)(h0:n≠0)(hn:n<4294967296):ae 342 [(.agg [(bP a.1),(ah (af a.2))]),(iP n)] (.agg [(bP a.1),(ah (af (a.2/n)))]):=by
 have zn:(af n).length<=256:=ik hn;exact tr true Tryz.call342 Tryz.func342 (chain [.c (vz _ (by omega):ae 331 [(iP n)] _),.c (lr _ _ (by omega) (by omega) ‹_›:ae 296 [(ah (af a.2)),(ah (af n))] _)] <| .nil) (by kernel_rfl)
def fM(d:Dy)(b:Nat):Bool×Nat:=(d.neg,if d.e+(b:Int)<0 then d.m/2^(0-(d.e+(b:Int))).toNat else d.m*2^(d.e+(b:Int)).toNat)
theorem JA(d:Dy)(hd:d.Valid)(b:Nat)(hb:b<=30000)(h:d.e+(b:Int)<0):ae 334 [(ag d),(iP b)] (.agg [(bP ((fM d b).1)),(ah (af ((fM d b).2)))]):=by
 have hx:=hd.exp;have z1:=hd.af;exact tr true Tryz.call334 Tryz.func334 (chain [ar (d.e+(b:Int)) (by omega),tB 11 (decide_eq_true h),ar (0-(d.e+(b:Int))) (by omega),
  .c (JR _ _ ‹_› (by omega) (by omega):ae 330 [(ah (af d.m)),(iP (0-(d.e+(b:Int))))] _)]<|rQ (.agg [(bP d.neg),(ah (af (d.m/2^(Int.toNat (0-(d.e+(b:Int)))))))]) (.agg [(bP ((fM d b).1)),(ah (af ((fM d b).2)))]) (by unfold fM;rw[if_pos h])) (by kernel_rfl)
theorem Jz(d:Dy)(hd:d.Valid)(b:Nat)(hb:b<=30000)(h:¬d.e+(b:Int)<0)(hs:(af (d.m*2^(Int.toNat (d.e+(b:Int))))).length<=256):ae 334 [(ag d),(iP b)] (.agg [(bP ((fM d b).1)),(ah (af ((fM d b).2)))]):=by
 have hx:=hd.exp;have z1:=hd.af;exact tr true Tryz.call334 Tryz.func334 (chain [ar (d.e+(b:Int)) (by omega),tB 11 (decide_eq_false h),ar (d.e+(b:Int)) (by omega),
  .c (vv _ _ ‹_› (by omega) (by omega) ‹_›:ae 329 [(ah (af d.m)),(iP (d.e+(b:Int)))] _)]<|rQ (.agg [(bP d.neg),(ah (af (d.m*2^(Int.toNat (d.e+(b:Int))))))]) (.agg [(bP ((fM d b).1)),(ah (af ((fM d b).2)))]) (by unfold fM;rw[if_neg h])) (by kernel_rfl)
theorem tN{d:Dy}{b K:Nat}(h:d.top+(b:Int)<=K):(fM d b).2<2^K:=by
 by_cases h0:d.m=0
 .have:(fM d b).2=0:=by unfold fM;simp only[h0];split<;>simp
  rw[this];exact Nat.pow_pos (by decide)
 .rw [rH h0]at h
  have hm:=gl d.m;unfold fM;simp only;split
  .rename_i hc
   obtain⟨k,hk⟩:∃ k,k=(0-(d.e+(b:Int))).toNat:=⟨_,rfl⟩
   rw[<-hk];by_cases hb:aj d.m<=k
   .rw [Nat.div_eq_of_lt (Nat.lt_of_lt_of_le hm (Nat.pow_le_pow_right (by decide) hb))];exact Nat.pow_pos (by decide)
   .refine (Nat.div_lt_iff_lt_mul (Nat.pow_pos (by decide))).2 (Nat.lt_of_lt_of_le hm ?_)
    rw[<-Nat.pow_add];exact Nat.pow_le_pow_right (by decide) (by omega)
  .rename_i hc
   obtain⟨k,hk⟩:∃ k,k=(d.e+(b:Int)).toNat:=⟨_,rfl⟩
   rw[<-hk];have:=Nat.mul_lt_mul_of_pos_right hm (Nat.pow_pos (n:=k) (show 0<2 by decide));rw[<-Nat.pow_add]at this;exact Nat.lt_of_lt_of_le this (Nat.pow_le_pow_right (by decide) (by omega))
theorem vw(d:Dy)(hd:d.Valid)(b K:Nat)(hb:b<=30000)(hK:K<=8192)(h:d.top+(b:Int)<=K):ae 334 [ag d,iP (b:Int)] (.agg [(bP ((fM d b).1)),(ah (af ((fM d b).2)))]):=by
 by_cases hc:d.e+(b:Int)<0
 .exact JA d hd b hb hc
 .refine Jz d hd b hb hc ?_
  have:=tN h;unfold fM at this;rw[if_neg hc]at this;exact cg this hK
open Go.RowKit Fp Pu
def cM(f:Nat->Nat):Nat->Bool×Nat
 | 0=>(false,f 0)
 | k+1=>aT (cM f k) (decide ((k+1)%2=1),f (k+1)/(2*(k+1)+1))
theorem Af{f:Nat->Nat}(hf:∀ k,f (k+1)<=f k):∀ n,(n%2=0->ev (cM f n)<=f 0/\(f 0:Int)-(f 1/3:Nat)<=ev (cM f n)-(f (n+1)/(2*(n+1)+1):Nat))/\(n%2=1->(f 0:Int)-(f 1/3:Nat)<=ev (cM f n)/\ev (cM f n)+(f (n+1)/(2*(n+1)+1):Nat)<=f 0)
 | 0=>⟨fun _=>⟨by simp[cM,ev],by simp[cM,ev]⟩,fun h=>by omega⟩
 | n+1=>by
  obtain⟨e,o⟩:=Af hf n;have hq:f (n+1+1)/(2*(n+1+1)+1)<=f (n+1)/(2*(n+1)+1):=Nat.div_le_div (hf (n+1)) (by omega) (by omega);have hv:ev (cM f (n+1))=ev (cM f n)+ev (decide ((n+1)%2=1),f (n+1)/(2*(n+1)+1)):=wF _ _;generalize f (n+1)/(2*(n+1)+1)=q1 at *
  generalize f (n+1+1)/(2*(n+1+1)+1)=q2 at *
  generalize f 1/3=q0 at *
  rcases Nat.mod_two_eq_zero_or_one n with h|h
  .obtain ⟨e1,e2⟩:=e h
   rw[show decide ((n+1)%2=1)=true from decide_eq_true (by omega)]at hv;simp only[ev,if_true]at hv;exact⟨fun q=>by omega,fun _=>⟨by unfold ev at *;omega,by unfold ev at *;omega⟩⟩
  .obtain ⟨e1,e2⟩:=o h
   rw[show decide ((n+1)%2=1)=false from decide_eq_false (by omega)]at hv;simp only[ev,Bool.false_eq_true,if_false]at hv;exact⟨fun _=>⟨by unfold ev at *;omega,by unfold ev at *;omega⟩,fun q=>by omega⟩
theorem vh{f:Nat->Nat}(hf:∀ k,f (k+1)<=f k)(n:Nat):(cM f n).2<=f 0/\f 0<=(cM f n).2+f 1/3:=by
 have ht:=Af hf n;have h1:f 1/3<=f 0:=Nat.le_trans (Nat.div_le_self _ _) (hf 0);have hb:(f 0:Int)-(f 1/3:Nat)<=ev (cM f n)/\ev (cM f n)<=f 0:=by
  rcases Nat.mod_two_eq_zero_or_one n with h|h
  .have:=ht.1 h
   generalize f (n+1)/(2*(n+1)+1)=q at *
   omega
  .have:=ht.2 h
   generalize f (n+1)/(2*(n+1)+1)=q at *
   omega
 generalize cM f n=s at *
 generalize f 1/3=q at *
 obtain⟨b,m⟩:=s;cases b
 .simp only[ev,Bool.false_eq_true,if_false]at hb ⊢;omega
 .simp only[ev,if_true]at hb ⊢;omega
theorem sf{f:Nat->Nat}(hf:∀ k,f (k+1)<=f k):∀ k,f k<=f 0
 | 0=>Nat.le_refl _
 | k+1=>Nat.le_trans (hf k) (sf hf k)
theorem oB{f:Nat->Nat}(hf:∀ k,f (k+1)<=f k){B:Nat}(hB:B<=8191)(hz:f 0<2^B)(k:Nat):(af (f k)).length<=256:=cg (Nat.lt_of_le_of_lt (sf hf k) hz) (by omega)
theorem si{f:Nat->Nat}(hf:∀ k,f (k+1)<=f k){B:Nat}(hB:B<=8191)(hz:f 0<2^B)(k:Nat):(af (cM f k).2).length<=256/\(af (f (k+1)/(2*(k+1)+1))).length<=256:=⟨cg (Nat.lt_of_le_of_lt (vh hf k).1 hz) (by omega),cg (Nat.lt_of_le_of_lt (Nat.le_trans (Nat.div_le_self _ _) (sf hf (k+1))) hz) (by omega)⟩
theorem Ag{f:Nat->Nat}(hf:∀ k,f (k+1)<=f k){B:Nat}(hB:B<=8191)(hz:f 0<2^B)(k:Nat):(af ((cM f k).2+f (k+1)/(2*(k+1)+1))).length<=256:=by
 have h1:=(vh hf k).1;have h2:=Nat.le_trans (Nat.div_le_self (f (k+1)) (2*(k+1)+1)) (sf hf (k+1));refine cg (k:=B+1) ?_ (by omega);rw[Nat.pow_succ];omega
def gF(n b:Nat):Nat->Nat
 | 0=>1*2^b/n
 | k+1=>gF n b k/(n*n)
theorem CS{n b:Nat}(hn:2<=n)(k:Nat):gF n b (k+1)*2<=gF n b k:=by
 show gF n b k/(n*n)*2<=_;have h1:gF n b k/(n*n)<=gF n b k/2:=Nat.div_le_div_left (by have:=Nat.mul_le_mul hn hn;omega) (by decide);omega
theorem wX(n b:Nat):gF n b 0<2^(b+1):=by
 show 1*2^b/n<_;rw[Nat.one_mul,Nat.pow_succ];have:=Nat.div_le_self (2^b) n;have:0<2^b:=Nat.pow_pos (by decide);omega
theorem Nn{n b:Nat}(hn:2<=n):∃ N,N<=b+1/\(∀ k,k<N->gF n b (k+1)≠0)/\gF n b (N+1)=0:=by
 obtain⟨N,h1,h2,h3⟩:=MW (wX n b) (CS hn);rcases N with _|N
 .refine ⟨0,by omega,fun k hk=>absurd hk (Nat.not_lt_zero _),?_⟩
  have:=CS (b:=b) hn 0;omega
 .exact ⟨N,by omega,fun k hk=>h2 (k+1) (by omega),h3⟩
theorem PI{T x y f g:Nat}(hT:65536<=T)(hf:f=T/5)(hx1:x<=f)(hx2:f<=x+f/(5*5)/3)(hy:y<=T/239)(hg:g=(aT (false,x*2^4) (true,y*2^2)).2):2<=g/\g<=T*4/\g/2<=T*2:=by
 have h16:(2:Nat)^4=16:=rfl;have h4:(2:Nat)^2=4:=rfl;have e:g=x*16-y*4:=by
  rw[hg,h16,h4];unfold aT;rw[if_neg (show ¬false=true from Bool.false_ne_true),if_neg (by show ¬x*16<y*4;omega)]
 omega
open Go.RowKit Fp Pu
def Ae(f:Nat->Nat)(g:FuncId)(cap:List E)(N:Nat)(x:Nat):PS:=⟨30,true,[(6,.e (iP (((x+1):Nat):Int))),(5,.box 5 0),(4,.box 4 0),(2,.box 2 0),(1,.e (.fn g cap))],[(5,.cells 209 [(bP ((cM f x).1)),(ah (af ((cM f x).2)))]),(4,.cells 209 [(bP false),(.v (.slice none 0 0))]),(2,.cells 209 [(bP false),(ah (af (f x)))])]⟩
theorem I3(f:Nat->Nat)(g:FuncId)(cap:List E)(N:Nat)(hp:∀ k,k<=N->ae g ((.agg [(bP false),(ah (af (f k)))])::cap) (.agg [(bP false),(ah (af (f (k+1))))]))(hf:∀ k,f (k+1)<=f k)(B:Nat)(hB:B<=8191)(hz:f 0<2^B)(h0:∀ k,k<N->f (k+1)≠0)(hN:f (N+1)=0)(hN2:N<=100000):ae 346 [(.agg [(bP false),(ah (af (f 0)))]),(.fn g cap)] (.agg [(bP ((cM f N).1)),(ah (af ((cM f N).2)))]):=by
 have z00:=oB hf hB hz 0;exact tr true Tryz.call346 Tryz.func346 (chain [.s (Sp.upto (Ae f g cap N) 0 N (by omega) (fun x hx hltx=>by
    have z1:=oB hf hB hz (x+1);have z0:=oB hf hB hz x;have zs:=(si hf hB hz x).1;have zt:=(si hf hB hz x).2;have zu:=Ag hf hB hz x;by_cases ho:(x+1)%2=1
    .exact aB (chain [.c (hp x (by omega):ae g ((.agg [(bP false),(ah (af (f x)))])::cap) _),.c (ku (false,(f (x+1))) ‹_›:ae 336 [(.agg [(bP false),(ah (af (f (x+1))))])] _),tF 15 ((f (x+1))=0) (h0 x (by omega)),
      ar (2*(((x+1):Nat):Int)) (by omega),ar ((((2*(x+1)):Nat):Int)+1) (by omega),
      .c (lg (false,(f (x+1))) ‹_› ((2*(x+1))+1) (by omega) (by omega):ae 342 [(.agg [(bP false),(ah (af (f (x+1))))]),(iP ((((2*(x+1))+1):Nat):Int))] _),.a (by omega:0<(2:Int)),
      tB 24 (by rw[ho];rfl:(((((x+1)%2):Nat):Int)==1)=true),.c (jt (false,((f (x+1))/((2*(x+1))+1))):ae 326 [(.agg [(bP false),(ah (af ((f (x+1))/((2*(x+1))+1))))])] _),
      .c (ig (cM f x) ‹_› ((!false),((f (x+1))/((2*(x+1))+1))) ‹_› ‹_›:ae 335 [(.agg [(bP ((cM f x).1)),(ah (af ((cM f x).2)))]),(.agg [(bP (!false)),(ah (af ((f (x+1))/((2*(x+1))+1))))])] _),
      ar ((((x+1):Nat):Int)+1) (by omega)] <| .e (chain [.b 5 (.of_eq (by first|rfl|simp[cM,ho]):Bx.le (.cells 209 [(bP ((aT (cM f x) ((!false),((f (x+1))/((2*(x+1))+1)))).1)),(ah (af ((aT (cM f x) ((!false),((f (x+1))/((2*(x+1))+1)))).2)))]) (.cells 209 [(bP ((cM f (x+1)).1)),(ah (af ((cM f (x+1)).2)))]))] <| .nil)) (by kernel_rfl)
    .exact aB (chain [.c (hp x (by omega):ae g ((.agg [(bP false),(ah (af (f x)))])::cap) _),.c (ku (false,(f (x+1))) ‹_›:ae 336 [(.agg [(bP false),(ah (af (f (x+1))))])] _),tF 15 ((f (x+1))=0) (h0 x (by omega)),
      ar (2*(((x+1):Nat):Int)) (by omega),ar ((((2*(x+1)):Nat):Int)+1) (by omega),
      .c (lg (false,(f (x+1))) ‹_› ((2*(x+1))+1) (by omega) (by omega):ae 342 [(.agg [(bP false),(ah (af (f (x+1))))]),(iP ((((2*(x+1))+1):Nat):Int))] _),.a (by omega:0<(2:Int)),
      tB 24 (by simp;omega:(((((x+1)%2):Nat):Int)==1)=false),
      .c (ig (cM f x) ‹_› (false,((f (x+1))/((2*(x+1))+1))) ‹_› ‹_›:ae 335 [(.agg [(bP ((cM f x).1)),(ah (af ((cM f x).2)))]),(.agg [(bP false),(ah (af ((f (x+1))/((2*(x+1))+1))))])] _),
      ar ((((x+1):Nat):Int)+1) (by omega)] <| .e (chain [.b 5 (.of_eq (by first|rfl|simp[cM,ho]):Bx.le (.cells 209 [(bP ((aT (cM f x) (false,((f (x+1))/((2*(x+1))+1)))).1)),(ah (af ((aT (cM f x) (false,((f (x+1))/((2*(x+1))+1)))).2)))]) (.cells 209 [(bP ((cM f (x+1)).1)),(ah (af ((cM f (x+1)).2)))]))] <| .nil)) (by kernel_rfl))
  (fun hx=>by
    have z1:=oB hf hB hz (N+1);have z0:=oB hf hB hz N;have zs:=(si hf hB hz N).1;have zt:=(si hf hB hz N).2;have zu:=Ag hf hB hz N
    exact aB (chain [.c (hp N (by omega):ae g ((.agg [(bP false),(ah (af (f N)))])::cap) _),.c (ku (false,(f (N+1))) ‹_›:ae 336 [(.agg [(bP false),(ah (af (f (N+1))))])] _),tB 15 (decide_eq_true hN)] <| .nil) (by kernel_rfl)) (by nofun):bA 4 Tryz.f346 (Ae f g cap N 0) .ret ⟨30,true,[(4,.box 4 0)],[(4,.cells 209 [(bP ((cM f N).1)),(ah (af ((cM f N).2)))])]⟩) (chain [.o 6 (.int (by first|rfl|omega|(simp only[Nat.add_mul,Nat.one_mul];omega)):PV.le (.e (iP 1)) (.e (iP (((0+1):Nat):Int)))),
  .b 5 (.of_eq (by first|rfl|simp[cM,ho]):Bx.le (.cells 209 [(bP false),(ah (af (f 0)))]) (.cells 209 [(bP ((cM f 0).1)),(ah (af ((cM f 0).2)))]))] <| .nil)] <| .nil) (by kernel_rfl)
theorem Jv(m n:Nat)(hm:(af m).length<=256)(hn0:n≠0)(hn:n<60000):ae 347 [(.agg [(bP false),(ah (af m))]),(.ref 1 fun j_=>[(iP n)].getD j_ .any)] (.agg [(bP false),(ah (af (m/(n*n))))]):=by
 have hnn:n*n<3600000000:=Nat.mul_lt_mul_of_lt_of_lt hn hn;have hnz:n*n≠0:=Nat.mul_ne_zero hn0 hn0;exact tr true Tryz.call347 Tryz.func347 (chain [ar ((n:Int)*(n:Int)) (by omega),.c (lg (false,m) ‹_› (n*n) (by omega) (by omega):ae 342 [(.agg [(bP false),(ah (af m))]),(iP (((n*n):Nat):Int))] _)] <| .nil) (by kernel_rfl)
theorem Jw(n b:Nat)(S:Bool×Nat)(hn0:n≠0)(hn:n<60000)(hb:b<=8000)(hS:ae 346 [(.agg [(bP false),(ah (af (1*2^b/n)))]),.fn 347 [(.ref 1 fun j_=>[(iP n)].getD j_ .any)]] (.agg [(bP S.1),(ah (af S.2))])):ae 343 [(iP n),(iP b)] (.agg [(bP S.1),(ah (af S.2))]):=by
 have z0:(af 1).length<=256:=ik (by decide);have z1:(af (1*2^b)).length<=256:=cg (k:=b+1) (by rw[Nat.pow_succ,Nat.one_mul];have:0<2^b:=Nat.pow_pos (by decide);omega) (by omega)
 exact tr true Tryz.call343 Tryz.func343 (chain [.o 6 (.e one_le:PV.le (.e (.sl false 1 1 fun i_ j_=>[(.v (.int .u32 1))].getD (i_*1+j_) (.v (.bool false)))) (.e (ah (af 1)))),.c (mj 1 b ‹_› (by omega) ‹_›),
  .c (lg (false,(1*2^b)) ‹_› n (by omega) (by omega):ae 342 [(.agg [(bP false),(ah (af (1*2^b)))]),(iP n)] _),
  .c (hS:ae 346 [(.agg [(bP false),(ah (af ((1*2^b)/n)))]),(.fn 347 [(.ref 1 fun j_=>[(iP n)].getD j_ .any)])] _)] <| .nil) (by kernel_rfl)
theorem A6(n b:Nat)(hn0:2<=n)(hn:n<60000)(hb:b<=8000):∃ S:Bool×Nat,S.2<=2^b/n/\2^b/n<=S.2+2^b/n/(n*n)/3/\ae 343 [iP (n:Int),iP (b:Int)] (.agg [(bP S.1),(ah (af S.2))]):=by
 obtain⟨N,h1,h2,h3⟩:=Nn (b:=b) hn0;have hf:∀ k,gF n b (k+1)<=gF n b k:=fun k=>Nat.div_le_self _ _
 obtain⟨r1,r2⟩:=vh hf N;have e0:gF n b 0=2^b/n:=by show 1*2^b/n=_;rw[Nat.one_mul]
 have e1:gF n b 1=2^b/n/(n*n):=by show gF n b 0/(n*n)=_;rw[e0]
 refine⟨cM (gF n b) N,by rw[<-e0];exact r1,by rw[<-e1,<-e0];exact r2,?_⟩;exact Jw n b _ (by omega) hn hb (I3 (gF n b) 347 _ N (fun k _=>Jv (gF n b k) n (oB hf (show b+1<=8191 by omega) (wX n b) k) (by omega) hn) hf (b+1) (by omega) (wX n b) h2 h3 (by omega))
theorem JB(b:Nat)(x y:Bool×Nat)(zx:x.2<2^b)(zy:y.2<2^b)(hb:b<=8000)(hx:ae 343 [iP ((5:Nat):Int),iP (b:Int)] (.agg [(bP x.1),(ah (af x.2))]))(hy:ae 343 [iP ((239:Nat):Int),iP (b:Int)] (.agg [(bP y.1),(ah (af y.2))])):ae 328 [(iP b)] (.agg [(bP ((aT (false,x.2*2^4) (true,y.2*2^2)).1)),(ah (af ((aT (false,x.2*2^4) (true,y.2*2^2)).2)))]):=by
 have z1:(af x.2).length<=256:=cg zx (by omega);have z2:(af y.2).length<=256:=cg zy (by omega);have e5:2^(b+5)=2^b*32:=by rw[Nat.pow_add]
 have z3:(af (x.2*2^4)).length<=256:=cg (k:=b+5) (by omega) (by omega);have z4:(af (y.2*2^2)).length<=256:=cg (k:=b+5) (by omega) (by omega);have z5:(af (x.2*2^4+y.2*2^2)).length<=256:=cg (k:=b+5) (by omega) (by omega)
 exact tr true Tryz.call328 Tryz.func328 (chain [.c (hx:ae 343 [(iP 5),(iP b)] _),.c (hy:ae 343 [(iP 239),(iP b)] _),.c (mj x.2 4 ‹_› (by omega) ‹_›),.c (mj y.2 2 ‹_› (by omega) ‹_›),
  .c (ig (false,(x.2*2^4)) ‹_› (true,(y.2*2^2)) ‹_› ‹_›:ae 335 [(.agg [(bP false),(ah (af (x.2*2^4)))]),(.agg [(bP true),(ah (af (y.2*2^2)))])] _)] <| .nil) (by kernel_rfl)
theorem A7(b:Nat)(hb1:16<=b)(hb:b<=8000):∃ c:Bool×Nat,2<=c.2/\c.2<=2^b*4/\c.2/2<=2^b*2/\ae 328 [iP (b:Int)] (.agg [(bP c.1),(ah (af c.2))]):=by
 obtain⟨x,x1,x2,hx⟩:=A6 5 b (by decide) (by decide) hb;obtain⟨y,y1,y2,hy⟩:=A6 239 b (by decide) (by decide) hb;have hT:65536<=2^b:=by have:=Nat.pow_le_pow_right (show 0<2 by decide) hb1;omega
 obtain⟨g1,g2,g3⟩:=PI hT rfl x1 x2 y1 rfl;exact⟨_,g1,g2,g3,JB b x y (by omega) (by omega) hb hx hy⟩
open Go.RowKit Fp Pu
theorem Gv(n:Nat)(h:n<4294967296):bits .and .u32 (n:Int) 3=((n%4:Nat):Int):=by
 have:=bits_and_u32_nat n 3 h (by decide);rw[show((3:Int))=((3:Nat):Int)from rfl,this];exact congrArg _ (Nat.and_two_pow_sub_one_eq_mod n 2)
theorem M1(k:Nat)(h:k<=3):bits .and .i64 (4-(k:Int)) 3=(((4-k)%4:Nat):Int):=by
 rcases(show k=0\/k=1\/k=2\/k=3 by omega)with rfl|rfl|rfl|rfl<;>decide
theorem LL{x:Bool×Nat}{m:Nat}(h:m<=x.2):aT x (!x.1,m)=(x.1,x.2-m):=by
 unfold aT;rw[if_neg (by show ¬x.1 = !x.1;cases x.1<;>decide),if_neg (by show ¬x.2<m;omega)]
theorem Qy(n:Nat):n%4<=3:=by omega
theorem Qx(n:Nat):(4-n)%4<=3:=by omega
theorem Qz{x:Bool×Nat}{H b t:Nat}(h0:1<=H)(hH:H<=2^(b+t+40)*2):(aT x (!x.1,x.2/H*H)).2/2^(t+40)<=2^(b+1):=by
 rw[LL (Nat.div_mul_le_self _ _)];show(x.2-x.2/H*H)/_<=_;have h1:x.2-x.2/H*H=x.2%H:=by
  have:=Nat.div_add_mod x.2 H;rw[Nat.mul_comm H]at this;omega
 have h2:=Nat.mod_lt x.2 (show 0<H by omega);rw[h1];refine Nat.div_le_of_le_mul (Nat.le_trans (Nat.le_of_lt h2) (Nat.le_trans hH (Nat.le_of_eq ?_)));rw[<-Nat.pow_add,show t+40+(b+1)=b+t+40+1 by omega];exact(Nat.pow_succ 2 (b+t+40)).symm
def bw(x:Bool×Nat):Nat->Bool
 | 0=>false
 | k+1=>(bw x k != x.1)
def aV(x:Bool×Nat)(b:Nat):Nat->(Bool×Nat)×(Bool×Nat)
 | 0=>((false,0),(false,1*2^b))
 | k+1=>if(k+1)%2=1 then(aT (aV x b k).1 ((if 2<=(k+1)%4 then !(bw x (k+1))else bw x (k+1)),aQ x.2 b (k+1)),(aV x b k).2)
  else((aV x b k).1,aT (aV x b k).2 ((if 2<=(k+1)%4 then !(bw x (k+1))else bw x (k+1)),aQ x.2 b (k+1)))
theorem FF{x:Bool×Nat}{b:Nat}(h:x.2<=2^(b+1)):∀ k,(aV x b k).1.2<=(k+1)*2^(b+1)/\(aV x b k).2.2<=(k+1)*2^(b+1)
 | 0=>⟨Nat.zero_le _,by show 1*2^b<=_;have:=Nat.pow_succ (n:=2) (m:=b);omega⟩
 | k+1=>by
  obtain⟨h1,h2⟩:=FF h k;have h3:=qt h (k+1);have h4:(k+1+1)*2^(b+1)=(k+1)*2^(b+1)+2^(b+1):=Nat.succ_mul _ _;unfold aV;split
  .refine ⟨Nat.le_trans (kv _ _) ?_,by rw[h4];exact Nat.le_trans h2 (Nat.le_add_right _ _)⟩
   rw[h4];exact Nat.add_le_add h1 h3
  .refine ⟨by rw[h4];exact Nat.le_trans h1 (Nat.le_add_right _ _),Nat.le_trans (kv _ _) ?_⟩
   rw[h4];exact Nat.add_le_add h2 h3
theorem FG{x:Bool×Nat}{b:Nat}(h:x.2<=2^(b+1))(hb:b<=3000){k:Nat}(hk:k<=b+5):(aV x b k).1.2<2^(b+14)/\(aV x b k).2.2<2^(b+14):=by
 obtain⟨h1,h2⟩:=FF h k;have h3:(k+1)*2^(b+1)<2^(b+14):=by
  rw[show b+14=13+(b+1)by omega,Nat.pow_add 2 13];exact Nat.mul_lt_mul_of_pos_right (by omega) (Nat.pow_pos (by decide))
 exact⟨Nat.lt_of_le_of_lt h1 h3,Nat.lt_of_le_of_lt h2 h3⟩
theorem L4{T:TypeId}:Bx.le (.cells T [bP false,.v (.slice none 0 0)]) (.cells T [bP false,ah (af 0)]) :=
 .cells (fun _=>rfl) (.cons (.refl _) (.cons nM .nil))
structure G9(x:Bool×Nat)(b k:Nat):Prop where
 t0:(af (aQ x.2 b k)).length<=256
 t1:(af (aQ x.2 b (k+1))).length<=256
 tm:(af (aQ x.2 b k*x.2)).length<=256
 tq:(af (aQ x.2 b k*x.2/2^b)).length<=256
 s0:(af (aV x b k).1.2).length<=256
 c0:(af (aV x b k).2.2).length<=256
 s1:(af ((aV x b k).1.2+aQ x.2 b (k+1))).length<=256
 c1:(af ((aV x b k).2.2+aQ x.2 b (k+1))).length<=256
theorem FE{x:Bool×Nat}{b:Nat}(h:x.2<=2^(b+1))(hb:b<=3000){k:Nat}(hk:k<=b+5):G9 x b k:=by
 have hp:(2:Nat)^(b+2)=2^(b+1)*2:=Nat.pow_succ _ _;have hq:(0:Nat)<2^(b+1):=Nat.pow_pos (by decide);have t0:=qt h k;have t1:=qt h (k+1);obtain⟨s,c⟩:=FG h hb hk;have hm:aQ x.2 b k*x.2<2^(b+2+(b+2)):=by
  rw[Nat.pow_add];exact Nat.mul_lt_mul_of_lt_of_lt (by omega) (by omega)
 have e14:(2:Nat)^(b+15)=2^(b+14)*2:=Nat.pow_succ _ _;have e13:(2:Nat)^(b+1)<=2^(b+14):=Nat.pow_le_pow_right (by decide) (by omega);exact⟨cg (k:=b+2) (by omega) (by omega),cg (k:=b+2) (by omega) (by omega),cg hm (by omega),cg (Nat.lt_of_le_of_lt (Nat.div_le_self _ _) hm) (by omega),
  cg s (by omega),cg c (by omega),cg (k:=b+15) (by omega) (by omega),cg (k:=b+15) (by omega) (by omega)⟩
theorem DH{s:Bool}{m b:Nat}(h:m<2^4000)(hb:b<=8000):cW (canon s m (-(b:Int))):=by
 by_cases h0:m=0
 .subst h0;exact .inl rfl
 .have e:canon s m (-(b:Int))=⟨s,m/2^aX m,-(b:Int)+aX m⟩:=by unfold canon;rw[if_neg h0]
  have h1:aj m<=4000:=cC.2 h;have h2:=jO (Nat.div_le_self m (2^aX m));have h3:aX m<=4000:=by
   have:=q8 h0;apply Classical.byContradiction;intro hc;have:=Nat.pow_le_pow_right (show 0<2 by decide) (show 4000<=aX m by omega);omega
  rw[e];exact .inr ⟨by show aj (m/2^aX m)<=4096;omega,by show -16384 <= -(b:Int)+aX m;omega,by show -(b:Int)+aX m<=16384;omega,by show(aj (m/2^aX m):Int)+(-(b:Int)+aX m)<=16384;omega⟩
theorem tX{a b i j n:Nat}(ha:a<2^i)(hb:b<2^j)(hi:i<=n)(hj:j<=n):a+b<2^(n+1):=by
 have h1:=Nat.pow_le_pow_right (show 0<2 by decide) hi;have h2:=Nat.pow_le_pow_right (show 0<2 by decide) hj;have e:2^(n+1)=2^n*2:=Nat.pow_succ _ _;omega
theorem LM{a b:Bool×Nat}{i j n:Nat}(ha:a.2<2^i)(hb:b.2<2^j)(hi:i<=n)(hj:j<=n):(aT a b).2<2^(n+1):=Nat.lt_of_le_of_lt (kv _ _) (tX ha hb hi hj)
theorem DI{s:Bool}{m:Nat}{e:Int}(h:cW (canon s m e)):(canon s m e).Valid:=⟨gR _ _ _,h⟩
theorem q9{m i k:Nat}(h:m<2^i)(hk:i<=k):m<2^k:=Nat.lt_of_lt_of_le h (Nat.pow_le_pow_right (by decide) hk)
def eE(a c:Bool×Nat):Bool×Nat:=if a.1=true/\a.2%c.2≠0 then aT (a.1,a.2/c.2) (true,1)else(a.1,a.2/c.2)
theorem Co(a c:Bool×Nat):(eE a c).2<=a.2/c.2+1:=by
 unfold eE;split
 .exact kv _ _
 .exact Nat.le_succ _
theorem LY(a c:Bool×Nat):(eE a c).2*c.2<=a.2+c.2:=by
 refine Nat.le_trans (Nat.mul_le_mul_right c.2 (Co a c)) ?_;rw[Nat.succ_mul];exact Nat.add_le_add_right (Nat.div_mul_le_self _ _) _
theorem Dz{lo hi:Dy}{e f:Int}(h:e≠0\/f≠0):ck lo e hi f=an:=if_pos h
theorem OH{lo hi:Dy}{e f:Int}(h:e=0)(k:f=0):ck lo e hi f=⟨lo,hi,false⟩:=if_neg (by rw[h,k];decide)
open Go.RowKit Fp Pu
def Fz(x:Bool×Nat)(b N:Nat)(i:Nat):PS:=⟨43,true,[(8,.e (iP (((i+1):Nat):Int))),(7,.box 7 0),(5,.box 5 0),(4,.box 4 0),(2,.box 2 0),(1,.e (iP b))],[(5,.cells 209 [(bP (((aV x b i).2).1)),(ah (af (((aV x b i).2).2)))]),(7,.cells 209 [(bP (bw x i)),(ah (af (aQ x.2 b i)))]),(4,.cells 209 [(bP (((aV x b i).1).1)),(ah (af (((aV x b i).1).2)))]),(2,.cells 209 [(bP x.1),(ah (af x.2))])]⟩
theorem tu(n i:Nat):(af n).getD i 0<4294967296:=by
 by_cases h:i<(af n).length
 .rw [List.getD_eq_getElem?_getD,List.getElem?_eq_getElem h]
  exact cE n _ (List.getElem_mem h)
 .rw [List.getD_eq_getElem?_getD,List.getElem?_eq_none (by omega)];decide
theorem JP(d:Dy)(b t m:Nat)(cp:Bool×Nat)(hd:d.Valid)(ht:t=d.top.toNat)(hb1:16<=b)(hb2:b<=2000)(ht2:t<=2000)(K:Nat)(hK:K<=6000)(zx:m<2^K)(zc:2<=cp.2)(zd:(af cp.2).length<=256)(hPi:ae 328 [iP ((((b+t)+40):Nat):Int)] (.agg [(bP cp.1),(ah (af cp.2))]))(hOf:ae 334 [ag d,iP ((((b+t)+40):Nat):Int)] (.agg [(bP true),(ah (af m))]))(hn:0<(af (m/(cp.2/2^1))).length):ae 324 [(ag d),(iP b)] (.aq [(.agg [(bP ((aT (true,m) (false,((m/(cp.2/2^1))*(cp.2/2^1)))).1)),(ah (af ((aT (true,m) (false,((m/(cp.2/2^1))*(cp.2/2^1)))).2/2^(t+40))))]),(iP ((((4-((af (m/(cp.2/2^1))).getD 0 0%4))%4):Nat):Int))]):=by
 have ht3:=rG hd;have zX:(af m).length<=256:=cg zx (by omega);have zH:(af (cp.2/2^1)).length<=256:=Nat.le_trans (cK (Nat.div_le_self _ _)) zd;have nH:(cp.2/2^1)≠0:=by omega
 have mM:((m/(cp.2/2^1))*(cp.2/2^1))<=m:=Nat.div_mul_le_self _ _;have zN:(af (m/(cp.2/2^1))).length<=256:=Nat.le_trans (cK (Nat.div_le_self _ _)) zX;have zM:(af ((m/(cp.2/2^1))*(cp.2/2^1))).length<=256:=Nat.le_trans (cK mM) zX;have zA:(af (m+((m/(cp.2/2^1))*(cp.2/2^1)))).length<=256:=cg (k:=K+1) (by have:=Nat.pow_succ 2 K;omega) (by omega)
 have zR:(af (aT (true,m) (false,((m/(cp.2/2^1))*(cp.2/2^1)))).2).length<=256:=Nat.le_trans (cK (kv _ _)) zA;have zm:(af (m%(cp.2/2^1))).length<=256:=Nat.le_trans (cK (Nat.mod_le _ _)) zX;have hg:(af (m/(cp.2/2^1))).getD 0 0<4294967296:=tu _ 0;have h4:(af (m/(cp.2/2^1))).getD 0 0%4<=3:=by omega
 exact tr true Tryz.call324 Tryz.func324 (chain [.c (bS _ ‹_›:ae 130 [(ag d)] _),.o 19 (.int (by split<;>omega):PV.le (.e (iP (if 0>(Dy.top d)then 0 else(Dy.top d)))) (.e (iP t))),ar ((b:Int)+(t:Int)) (by omega),
  ar ((((b+t):Nat):Int)+40) (by omega),.c (hPi:ae 328 [(iP ((((b+t)+40):Nat):Int))] _),.c (jP cp.2 1 ‹_› (by omega)),.c (hOf:ae 334 [(ag d),(iP ((((b+t)+40):Nat):Int))] _),
  .c (lr _ _ (by omega) (by omega) ‹_›:ae 296 [(ah (af m)),(ah (af (cp.2/2^1)))] _),
  .c (lv _ _ ‹_› ‹_› ‹_›:ae 181 [(ah (af (m/(cp.2/2^1)))),(ah (af (cp.2/2^1)))] _),
  .c (ig (true,m) ‹_› (false,((m/(cp.2/2^1))*(cp.2/2^1))) ‹_› ‹_›:ae 335 [(.agg [(bP true),(ah (af m))]),(.agg [(bP false),(ah (af ((m/(cp.2/2^1))*(cp.2/2^1))))])] _),
  tT 61 (0<(((af (m/(cp.2/2^1))).length:Nat):Int)) (by omega),iX (0) ((af (m/(cp.2/2^1))).length) (by omega),
  .o 65 (.int (Gv _ (by omega)):PV.le (.e (.v (.int .u32 (bits .and .u32 ((((af (m/(cp.2/2^1))).getD 0 0):Nat):Int) 3)))) (.e (.v (.int .u32 (((((af (m/(cp.2/2^1))).getD 0 0)%4):Nat):Int))))),
  .o 66 (.int (CK _ (by omega)):PV.le (.e (iP (IntKind.i64.wrap (((((af (m/(cp.2/2^1))).getD 0 0)%4):Nat):Int)))) (.e (iP (((((af (m/(cp.2/2^1))).getD 0 0)%4):Nat):Int)))),
  ar (4-(((((af (m/(cp.2/2^1))).getD 0 0)%4):Nat):Int)) (by omega),
  .o 71 (.int (M1 _ (by omega)):PV.le (.e (iP (bits .and .i64 (4-(((((af (m/(cp.2/2^1))).getD 0 0)%4):Nat):Int)) 3))) (.e (iP ((((4-((af (m/(cp.2/2^1))).getD 0 0%4))%4):Nat):Int)))),
  ar ((t:Int)+40) (by omega),.c (jP ((aT (true,m) (false,((m/(cp.2/2^1))*(cp.2/2^1)))).2) (t+40) ‹_› (by omega))] <| .nil) (by kernel_rfl)
theorem JN(d:Dy)(b t m:Nat)(cp:Bool×Nat)(hd:d.Valid)(ht:t=d.top.toNat)(hb1:16<=b)(hb2:b<=2000)(ht2:t<=2000)(K:Nat)(hK:K<=6000)(zx:m<2^K)(zc:2<=cp.2)(zd:(af cp.2).length<=256)(hPi:ae 328 [iP ((((b+t)+40):Nat):Int)] (.agg [(bP cp.1),(ah (af cp.2))]))(hOf:ae 334 [ag d,iP ((((b+t)+40):Nat):Int)] (.agg [(bP true),(ah (af m))]))(hn:¬0<(af (m/(cp.2/2^1))).length):ae 324 [(ag d),(iP b)] (.aq [(.agg [(bP ((aT (true,m) (false,((m/(cp.2/2^1))*(cp.2/2^1)))).1)),(ah (af ((aT (true,m) (false,((m/(cp.2/2^1))*(cp.2/2^1)))).2/2^(t+40))))]),(iP 0)]):=by
 have ht3:=rG hd;have zX:(af m).length<=256:=cg zx (by omega);have zH:(af (cp.2/2^1)).length<=256:=Nat.le_trans (cK (Nat.div_le_self _ _)) zd;have nH:(cp.2/2^1)≠0:=by omega
 have mM:((m/(cp.2/2^1))*(cp.2/2^1))<=m:=Nat.div_mul_le_self _ _;have zN:(af (m/(cp.2/2^1))).length<=256:=Nat.le_trans (cK (Nat.div_le_self _ _)) zX;have zM:(af ((m/(cp.2/2^1))*(cp.2/2^1))).length<=256:=Nat.le_trans (cK mM) zX;have zA:(af (m+((m/(cp.2/2^1))*(cp.2/2^1)))).length<=256:=cg (k:=K+1) (by have:=Nat.pow_succ 2 K;omega) (by omega)
 have zR:(af (aT (true,m) (false,((m/(cp.2/2^1))*(cp.2/2^1)))).2).length<=256:=Nat.le_trans (cK (kv _ _)) zA;have zm:(af (m%(cp.2/2^1))).length<=256:=Nat.le_trans (cK (Nat.mod_le _ _)) zX;have hg:(af (m/(cp.2/2^1))).getD 0 0<4294967296:=tu _ 0;have h4:(af (m/(cp.2/2^1))).getD 0 0%4<=3:=by omega
 exact tr true Tryz.call324 Tryz.func324 (chain [.c (bS _ ‹_›:ae 130 [(ag d)] _),.o 19 (.int (by split<;>omega):PV.le (.e (iP (if 0>(Dy.top d)then 0 else(Dy.top d)))) (.e (iP t))),ar ((b:Int)+(t:Int)) (by omega),
  ar ((((b+t):Nat):Int)+40) (by omega),.c (hPi:ae 328 [(iP ((((b+t)+40):Nat):Int))] _),.c (jP cp.2 1 ‹_› (by omega)),.c (hOf:ae 334 [(ag d),(iP ((((b+t)+40):Nat):Int))] _),
  .c (lr _ _ (by omega) (by omega) ‹_›:ae 296 [(ah (af m)),(ah (af (cp.2/2^1)))] _),
  .c (lv _ _ ‹_› ‹_› ‹_›:ae 181 [(ah (af (m/(cp.2/2^1)))),(ah (af (cp.2/2^1)))] _),
  .c (ig (true,m) ‹_› (false,((m/(cp.2/2^1))*(cp.2/2^1))) ‹_› ‹_›:ae 335 [(.agg [(bP true),(ah (af m))]),(.agg [(bP false),(ah (af ((m/(cp.2/2^1))*(cp.2/2^1))))])] _),
  tF 61 (0<(((af (m/(cp.2/2^1))).length:Nat):Int)) (by omega),ar (4-0) (by omega),.o 71 (.int (by decide):PV.le (.e (iP (bits .and .i64 (4-0) 3))) (.e (iP 0))),ar ((t:Int)+40) (by omega),
  .c (jP ((aT (true,m) (false,((m/(cp.2/2^1))*(cp.2/2^1)))).2) (t+40) ‹_› (by omega))] <| .nil) (by kernel_rfl)
theorem JQ(d:Dy)(b t m:Nat)(cp:Bool×Nat)(hd:d.Valid)(ht:t=d.top.toNat)(hb1:16<=b)(hb2:b<=2000)(ht2:t<=2000)(K:Nat)(hK:K<=6000)(zx:m<2^K)(zc:2<=cp.2)(zd:(af cp.2).length<=256)(hPi:ae 328 [iP ((((b+t)+40):Nat):Int)] (.agg [(bP cp.1),(ah (af cp.2))]))(hOf:ae 334 [ag d,iP ((((b+t)+40):Nat):Int)] (.agg [(bP false),(ah (af m))]))(hn:0<(af (m/(cp.2/2^1))).length):ae 324 [(ag d),(iP b)] (.aq [(.agg [(bP ((aT (false,m) (true,((m/(cp.2/2^1))*(cp.2/2^1)))).1)),(ah (af ((aT (false,m) (true,((m/(cp.2/2^1))*(cp.2/2^1)))).2/2^(t+40))))]),(iP ((((af (m/(cp.2/2^1))).getD 0 0%4):Nat):Int))]):=by
 have ht3:=rG hd;have zX:(af m).length<=256:=cg zx (by omega);have zH:(af (cp.2/2^1)).length<=256:=Nat.le_trans (cK (Nat.div_le_self _ _)) zd;have nH:(cp.2/2^1)≠0:=by omega
 have mM:((m/(cp.2/2^1))*(cp.2/2^1))<=m:=Nat.div_mul_le_self _ _;have zN:(af (m/(cp.2/2^1))).length<=256:=Nat.le_trans (cK (Nat.div_le_self _ _)) zX;have zM:(af ((m/(cp.2/2^1))*(cp.2/2^1))).length<=256:=Nat.le_trans (cK mM) zX;have zA:(af (m+((m/(cp.2/2^1))*(cp.2/2^1)))).length<=256:=cg (k:=K+1) (by have:=Nat.pow_succ 2 K;omega) (by omega)
 have zR:(af (aT (false,m) (true,((m/(cp.2/2^1))*(cp.2/2^1)))).2).length<=256:=Nat.le_trans (cK (kv _ _)) zA;have zm:(af (m%(cp.2/2^1))).length<=256:=Nat.le_trans (cK (Nat.mod_le _ _)) zX;have hg:(af (m/(cp.2/2^1))).getD 0 0<4294967296:=tu _ 0;have h4:(af (m/(cp.2/2^1))).getD 0 0%4<=3:=by omega
 exact tr true Tryz.call324 Tryz.func324 (chain [.c (bS _ ‹_›:ae 130 [(ag d)] _),.o 19 (.int (by split<;>omega):PV.le (.e (iP (if 0>(Dy.top d)then 0 else(Dy.top d)))) (.e (iP t))),ar ((b:Int)+(t:Int)) (by omega),
  ar ((((b+t):Nat):Int)+40) (by omega),.c (hPi:ae 328 [(iP ((((b+t)+40):Nat):Int))] _),.c (jP cp.2 1 ‹_› (by omega)),.c (hOf:ae 334 [(ag d),(iP ((((b+t)+40):Nat):Int))] _),
  .c (lr _ _ (by omega) (by omega) ‹_›:ae 296 [(ah (af m)),(ah (af (cp.2/2^1)))] _),
  .c (lv _ _ ‹_› ‹_› ‹_›:ae 181 [(ah (af (m/(cp.2/2^1)))),(ah (af (cp.2/2^1)))] _),
  .c (ig (false,m) ‹_› (true,((m/(cp.2/2^1))*(cp.2/2^1))) ‹_› ‹_›:ae 335 [(.agg [(bP false),(ah (af m))]),(.agg [(bP true),(ah (af ((m/(cp.2/2^1))*(cp.2/2^1))))])] _),
  tT 61 (0<(((af (m/(cp.2/2^1))).length:Nat):Int)) (by omega),iX (0) ((af (m/(cp.2/2^1))).length) (by omega),
  .o 65 (.int (Gv _ (by omega)):PV.le (.e (.v (.int .u32 (bits .and .u32 ((((af (m/(cp.2/2^1))).getD 0 0):Nat):Int) 3)))) (.e (.v (.int .u32 (((((af (m/(cp.2/2^1))).getD 0 0)%4):Nat):Int))))),
  .o 66 (.int (CK _ (by omega)):PV.le (.e (iP (IntKind.i64.wrap (((((af (m/(cp.2/2^1))).getD 0 0)%4):Nat):Int)))) (.e (iP (((((af (m/(cp.2/2^1))).getD 0 0)%4):Nat):Int)))),
  ar ((t:Int)+40) (by omega),.c (jP ((aT (false,m) (true,((m/(cp.2/2^1))*(cp.2/2^1)))).2) (t+40) ‹_› (by omega))] <| .nil) (by kernel_rfl)
theorem JO(d:Dy)(b t m:Nat)(cp:Bool×Nat)(hd:d.Valid)(ht:t=d.top.toNat)(hb1:16<=b)(hb2:b<=2000)(ht2:t<=2000)(K:Nat)(hK:K<=6000)(zx:m<2^K)(zc:2<=cp.2)(zd:(af cp.2).length<=256)(hPi:ae 328 [iP ((((b+t)+40):Nat):Int)] (.agg [(bP cp.1),(ah (af cp.2))]))(hOf:ae 334 [ag d,iP ((((b+t)+40):Nat):Int)] (.agg [(bP false),(ah (af m))]))(hn:¬0<(af (m/(cp.2/2^1))).length):ae 324 [(ag d),(iP b)] (.aq [(.agg [(bP ((aT (false,m) (true,((m/(cp.2/2^1))*(cp.2/2^1)))).1)),(ah (af ((aT (false,m) (true,((m/(cp.2/2^1))*(cp.2/2^1)))).2/2^(t+40))))]),(iP 0)]):=by
 have ht3:=rG hd;have zX:(af m).length<=256:=cg zx (by omega);have zH:(af (cp.2/2^1)).length<=256:=Nat.le_trans (cK (Nat.div_le_self _ _)) zd;have nH:(cp.2/2^1)≠0:=by omega
 have mM:((m/(cp.2/2^1))*(cp.2/2^1))<=m:=Nat.div_mul_le_self _ _;have zN:(af (m/(cp.2/2^1))).length<=256:=Nat.le_trans (cK (Nat.div_le_self _ _)) zX;have zM:(af ((m/(cp.2/2^1))*(cp.2/2^1))).length<=256:=Nat.le_trans (cK mM) zX;have zA:(af (m+((m/(cp.2/2^1))*(cp.2/2^1)))).length<=256:=cg (k:=K+1) (by have:=Nat.pow_succ 2 K;omega) (by omega)
 have zR:(af (aT (false,m) (true,((m/(cp.2/2^1))*(cp.2/2^1)))).2).length<=256:=Nat.le_trans (cK (kv _ _)) zA;have zm:(af (m%(cp.2/2^1))).length<=256:=Nat.le_trans (cK (Nat.mod_le _ _)) zX;have hg:(af (m/(cp.2/2^1))).getD 0 0<4294967296:=tu _ 0;have h4:(af (m/(cp.2/2^1))).getD 0 0%4<=3:=by omega
 exact tr true Tryz.call324 Tryz.func324 (chain [.c (bS _ ‹_›:ae 130 [(ag d)] _),.o 19 (.int (by split<;>omega):PV.le (.e (iP (if 0>(Dy.top d)then 0 else(Dy.top d)))) (.e (iP t))),ar ((b:Int)+(t:Int)) (by omega),
  ar ((((b+t):Nat):Int)+40) (by omega),.c (hPi:ae 328 [(iP ((((b+t)+40):Nat):Int))] _),.c (jP cp.2 1 ‹_› (by omega)),.c (hOf:ae 334 [(ag d),(iP ((((b+t)+40):Nat):Int))] _),
  .c (lr _ _ (by omega) (by omega) ‹_›:ae 296 [(ah (af m)),(ah (af (cp.2/2^1)))] _),
  .c (lv _ _ ‹_› ‹_› ‹_›:ae 181 [(ah (af (m/(cp.2/2^1)))),(ah (af (cp.2/2^1)))] _),
  .c (ig (false,m) ‹_› (true,((m/(cp.2/2^1))*(cp.2/2^1))) ‹_› ‹_›:ae 335 [(.agg [(bP false),(ah (af m))]),(.agg [(bP true),(ah (af ((m/(cp.2/2^1))*(cp.2/2^1))))])] _),
  tF 61 (0<(((af (m/(cp.2/2^1))).length:Nat):Int)) (by omega),ar ((t:Int)+40) (by omega),.c (jP ((aT (false,m) (true,((m/(cp.2/2^1))*(cp.2/2^1)))).2) (t+40) ‹_› (by omega))] <| .nil) (by kernel_rfl)
theorem JM(d:Dy)(b:Nat)(hd:d.Valid)(hb1:16<=b)(hb2:b<=1000)(ht:d.top<=100):∃ (r:Bool×Nat) (k:Nat),r.2<=2^(b+1)/\k<=3/\ae 324 [ag d,iP (b:Int)] (.aq [(.agg [(bP r.1),(ah (af r.2))]),iP (k:Int)]):=by
 obtain⟨t,ht2⟩:∃ t,t=d.top.toNat:=⟨_,rfl⟩
 obtain⟨cp,c1,c2,c3,hPi⟩:=A7 (b+t+40) (by omega) (by omega);have hOf:=vw d hd (b+t+40) 6000 (by omega) (by decide) (by omega);have hlt:=tN (d:=d) (b:=b+t+40) (K:=6000) (by omega);generalize fM d (b+t+40)=x at hOf hlt;have hp:(2:Nat)^(b+t+40+3)=2^(b+t+40)*8:=by rw[Nat.pow_add]
 have zd:(af cp.2).length<=256:=cg (k:=b+t+40+3) (by have:0<2^(b+t+40):=Nat.pow_pos (by decide);omega) (by omega);obtain⟨sg,m⟩:=x;have hle:=Qz (x:=(sg,m)) (H:=cp.2/2^1) (b:=b) (t:=t) (by omega) c3;by_cases hn:0<(af (m/(cp.2/2^1))).length
 .cases sg with
  | false=>exact⟨((aT (false,m) (true,m/(cp.2/2^1)*(cp.2/2^1))).1,(aT (false,m) (true,m/(cp.2/2^1)*(cp.2/2^1))).2/2^(t+40)),_,hle,Qy _,JQ d b t m cp hd ht2 hb1 (by omega) (by omega) 6000 (by decide) hlt c1 zd hPi hOf hn⟩
  | true=>exact⟨((aT (true,m) (false,m/(cp.2/2^1)*(cp.2/2^1))).1,(aT (true,m) (false,m/(cp.2/2^1)*(cp.2/2^1))).2/2^(t+40)),_,hle,Qx _,JP d b t m cp hd ht2 hb1 (by omega) (by omega) 6000 (by decide) hlt c1 zd hPi hOf hn⟩
 .cases sg with
  | false=>exact⟨((aT (false,m) (true,m/(cp.2/2^1)*(cp.2/2^1))).1,(aT (false,m) (true,m/(cp.2/2^1)*(cp.2/2^1))).2/2^(t+40)),_,hle,Nat.zero_le 3,JO d b t m cp hd ht2 hb1 (by omega) (by omega) 6000 (by decide) hlt c1 zd hPi hOf hn⟩
  | true=>exact⟨((aT (true,m) (false,m/(cp.2/2^1)*(cp.2/2^1))).1,(aT (true,m) (false,m/(cp.2/2^1)*(cp.2/2^1))).2/2^(t+40)),_,hle,Nat.zero_le 3,JN d b t m cp hd ht2 hb1 (by omega) (by omega) 6000 (by decide) hlt c1 zd hPi hOf hn⟩
theorem JS(x:Bool×Nat)(b N:Nat)(hx2:x.2<=2^(b+1))(hb:b<=3000)(hN2:N<=b+4)(h0:∀ k,k<N+1->aQ x.2 b k≠0)(hN:aQ x.2 b (N+1)=0):ae 325 [(.agg [(bP x.1),(ah (af x.2))]),(iP b)] (.aq [(.agg [(bP (((aV x b N).1).1)),(ah (af (((aV x b N).1).2)))]),(.agg [(bP (((aV x b N).2).1)),(ah (af (((aV x b N).2).2)))])]):=by
 have zx:(af x.2).length<=256:=cg (k:=b+2) (by have e:2^(b+2)=2^(b+1)*2:=Nat.pow_succ _ _;have:0<2^(b+1):=Nat.pow_pos (by decide);omega) (by omega);have z0:(af 1).length<=256:=ik (by decide);have z1:(af (1*2^b)).length<=256:=cg (k:=b+1) (by rw[Nat.pow_succ,Nat.one_mul];have:0<2^b:=Nat.pow_pos (by decide);omega) (by omega)
 exact tr true Tryz.call325 Tryz.func325 (chain [.o 10 (.e one_le:PV.le (.e (.sl false 1 1 fun i_ j_=>[(.v (.int .u32 1))].getD (i_*1+j_) (.v (.bool false)))) (.e (ah (af 1)))),.c (mj 1 b ‹_› (by omega) ‹_›),
  .s (Sp.upto (Fz x b N) 0 N (by omega) (fun i hi hlti=>by
    have SF:=FE hx2 hb (k:=i) (by omega);obtain⟨f0,f1,f2,f3,f4,f5,f6,f7⟩:=SF;by_cases h4:2<=(i+1)%4
    .by_cases ho:(i+1)%2=1
     .exact aB (chain [.c (oX ((bw x i),(aQ x.2 b i)) ‹_› x ‹_› _ (by omega) ‹_›:ae 332 [(.agg [(bP (bw x i)),(ah (af (aQ x.2 b i)))]),(.agg [(bP x.1),(ah (af x.2))]),(iP b)] _),
       .c (lg (((bw x i) != x.1),((aQ x.2 b i)*x.2/2^b)) ‹_› (i+1) (by omega) (by omega):ae 342 [(.agg [(bP ((bw x i) != x.1)),(ah (af ((aQ x.2 b i)*x.2/2^b)))]),(iP (((i+1):Nat):Int))] _),
       .c (ku ((bw x (i+1)),(aQ x.2 b (i+1))) ‹_›:ae 336 [(.agg [(bP (bw x (i+1))),(ah (af (aQ x.2 b (i+1))))])] _),tF 25 ((aQ x.2 b (i+1))=0) (h0 (i+1) (by omega)),.a (by omega:0<(4:Int)),
       tT 31 (2<=((((i+1)%4):Nat):Int)) (by omega),.c (jt ((bw x (i+1)),(aQ x.2 b (i+1))):ae 326 [(.agg [(bP (bw x (i+1))),(ah (af (aQ x.2 b (i+1))))])] _),.a (by omega:0<(2:Int)),
       tB 36 (by rw[ho];rfl:(((((i+1)%2):Nat):Int)==1)=true),
       .c (ig ((aV x b i).1) ‹_› ((!(bw x (i+1))),(aQ x.2 b (i+1))) ‹_› ‹_›:ae 335 [(.agg [(bP (((aV x b i).1).1)),(ah (af (((aV x b i).1).2)))]),(.agg [(bP (!(bw x (i+1)))),(ah (af (aQ x.2 b (i+1))))])] _),
       ar ((((i+1):Nat):Int)+1) (by omega)] <| .e (chain [.b 5 (.of_eq (by first|rfl|simp[aV,bw,aQ,ho,h4]|simp[aV,bw,aQ]):Bx.le (.cells 209 [(bP (((aV x b i).2).1)),(ah (af (((aV x b i).2).2)))]) (.cells 209 [(bP (((aV x b (i+1)).2).1)),(ah (af (((aV x b (i+1)).2).2)))])),
  .b 4 (.of_eq (by first|rfl|simp[aV,bw,aQ,ho,h4]|simp[aV,bw,aQ]):Bx.le (.cells 209 [(bP ((aT ((aV x b i).1) ((!(bw x (i+1))),(aQ x.2 b (i+1)))).1)),(ah (af ((aT ((aV x b i).1) ((!(bw x (i+1))),(aQ x.2 b (i+1)))).2)))]) (.cells 209 [(bP (((aV x b (i+1)).1).1)),(ah (af (((aV x b (i+1)).1).2)))]))] <| .nil)) (by kernel_rfl)
     .exact aB (chain [.c (oX ((bw x i),(aQ x.2 b i)) ‹_› x ‹_› _ (by omega) ‹_›:ae 332 [(.agg [(bP (bw x i)),(ah (af (aQ x.2 b i)))]),(.agg [(bP x.1),(ah (af x.2))]),(iP b)] _),
       .c (lg (((bw x i) != x.1),((aQ x.2 b i)*x.2/2^b)) ‹_› (i+1) (by omega) (by omega):ae 342 [(.agg [(bP ((bw x i) != x.1)),(ah (af ((aQ x.2 b i)*x.2/2^b)))]),(iP (((i+1):Nat):Int))] _),
       .c (ku ((bw x (i+1)),(aQ x.2 b (i+1))) ‹_›:ae 336 [(.agg [(bP (bw x (i+1))),(ah (af (aQ x.2 b (i+1))))])] _),tF 25 ((aQ x.2 b (i+1))=0) (h0 (i+1) (by omega)),.a (by omega:0<(4:Int)),
       tT 31 (2<=((((i+1)%4):Nat):Int)) (by omega),.c (jt ((bw x (i+1)),(aQ x.2 b (i+1))):ae 326 [(.agg [(bP (bw x (i+1))),(ah (af (aQ x.2 b (i+1))))])] _),.a (by omega:0<(2:Int)),
       tB 36 (by simp;omega:(((((i+1)%2):Nat):Int)==1)=false),
       .c (ig ((aV x b i).2) ‹_› ((!(bw x (i+1))),(aQ x.2 b (i+1))) ‹_› ‹_›:ae 335 [(.agg [(bP (((aV x b i).2).1)),(ah (af (((aV x b i).2).2)))]),(.agg [(bP (!(bw x (i+1)))),(ah (af (aQ x.2 b (i+1))))])] _),
       ar ((((i+1):Nat):Int)+1) (by omega)] <| .e (chain [.b 5 (.of_eq (by first|rfl|simp[aV,bw,aQ,ho,h4]|simp[aV,bw,aQ]):Bx.le (.cells 209 [(bP ((aT ((aV x b i).2) ((!(bw x (i+1))),(aQ x.2 b (i+1)))).1)),(ah (af ((aT ((aV x b i).2) ((!(bw x (i+1))),(aQ x.2 b (i+1)))).2)))]) (.cells 209 [(bP (((aV x b (i+1)).2).1)),(ah (af (((aV x b (i+1)).2).2)))])),
  .b 4 (.of_eq (by first|rfl|simp[aV,bw,aQ,ho,h4]|simp[aV,bw,aQ]):Bx.le (.cells 209 [(bP (((aV x b i).1).1)),(ah (af (((aV x b i).1).2)))]) (.cells 209 [(bP (((aV x b (i+1)).1).1)),(ah (af (((aV x b (i+1)).1).2)))]))] <| .nil)) (by kernel_rfl)
    .by_cases ho:(i+1)%2=1
     .exact aB (chain [.c (oX ((bw x i),(aQ x.2 b i)) ‹_› x ‹_› _ (by omega) ‹_›:ae 332 [(.agg [(bP (bw x i)),(ah (af (aQ x.2 b i)))]),(.agg [(bP x.1),(ah (af x.2))]),(iP b)] _),
       .c (lg (((bw x i) != x.1),((aQ x.2 b i)*x.2/2^b)) ‹_› (i+1) (by omega) (by omega):ae 342 [(.agg [(bP ((bw x i) != x.1)),(ah (af ((aQ x.2 b i)*x.2/2^b)))]),(iP (((i+1):Nat):Int))] _),
       .c (ku ((bw x (i+1)),(aQ x.2 b (i+1))) ‹_›:ae 336 [(.agg [(bP (bw x (i+1))),(ah (af (aQ x.2 b (i+1))))])] _),tF 25 ((aQ x.2 b (i+1))=0) (h0 (i+1) (by omega)),.a (by omega:0<(4:Int)),
       tF 31 (2<=((((i+1)%4):Nat):Int)) (by omega),.a (by omega:0<(2:Int)),tB 36 (by rw[ho];rfl:(((((i+1)%2):Nat):Int)==1)=true),
       .c (ig ((aV x b i).1) ‹_› ((bw x (i+1)),(aQ x.2 b (i+1))) ‹_› ‹_›:ae 335 [(.agg [(bP (((aV x b i).1).1)),(ah (af (((aV x b i).1).2)))]),(.agg [(bP (bw x (i+1))),(ah (af (aQ x.2 b (i+1))))])] _),
       ar ((((i+1):Nat):Int)+1) (by omega)] <| .e (chain [.b 5 (.of_eq (by first|rfl|simp[aV,bw,aQ,ho,h4]|simp[aV,bw,aQ]):Bx.le (.cells 209 [(bP (((aV x b i).2).1)),(ah (af (((aV x b i).2).2)))]) (.cells 209 [(bP (((aV x b (i+1)).2).1)),(ah (af (((aV x b (i+1)).2).2)))])),
  .b 4 (.of_eq (by first|rfl|simp[aV,bw,aQ,ho,h4]|simp[aV,bw,aQ]):Bx.le (.cells 209 [(bP ((aT ((aV x b i).1) ((bw x (i+1)),(aQ x.2 b (i+1)))).1)),(ah (af ((aT ((aV x b i).1) ((bw x (i+1)),(aQ x.2 b (i+1)))).2)))]) (.cells 209 [(bP (((aV x b (i+1)).1).1)),(ah (af (((aV x b (i+1)).1).2)))]))] <| .nil)) (by kernel_rfl)
     .exact aB (chain [.c (oX ((bw x i),(aQ x.2 b i)) ‹_› x ‹_› _ (by omega) ‹_›:ae 332 [(.agg [(bP (bw x i)),(ah (af (aQ x.2 b i)))]),(.agg [(bP x.1),(ah (af x.2))]),(iP b)] _),
       .c (lg (((bw x i) != x.1),((aQ x.2 b i)*x.2/2^b)) ‹_› (i+1) (by omega) (by omega):ae 342 [(.agg [(bP ((bw x i) != x.1)),(ah (af ((aQ x.2 b i)*x.2/2^b)))]),(iP (((i+1):Nat):Int))] _),
       .c (ku ((bw x (i+1)),(aQ x.2 b (i+1))) ‹_›:ae 336 [(.agg [(bP (bw x (i+1))),(ah (af (aQ x.2 b (i+1))))])] _),tF 25 ((aQ x.2 b (i+1))=0) (h0 (i+1) (by omega)),.a (by omega:0<(4:Int)),
       tF 31 (2<=((((i+1)%4):Nat):Int)) (by omega),.a (by omega:0<(2:Int)),tB 36 (by simp;omega:(((((i+1)%2):Nat):Int)==1)=false),
       .c (ig ((aV x b i).2) ‹_› ((bw x (i+1)),(aQ x.2 b (i+1))) ‹_› ‹_›:ae 335 [(.agg [(bP (((aV x b i).2).1)),(ah (af (((aV x b i).2).2)))]),(.agg [(bP (bw x (i+1))),(ah (af (aQ x.2 b (i+1))))])] _),
       ar ((((i+1):Nat):Int)+1) (by omega)] <| .e (chain [.b 5 (.of_eq (by first|rfl|simp[aV,bw,aQ,ho,h4]|simp[aV,bw,aQ]):Bx.le (.cells 209 [(bP ((aT ((aV x b i).2) ((bw x (i+1)),(aQ x.2 b (i+1)))).1)),(ah (af ((aT ((aV x b i).2) ((bw x (i+1)),(aQ x.2 b (i+1)))).2)))]) (.cells 209 [(bP (((aV x b (i+1)).2).1)),(ah (af (((aV x b (i+1)).2).2)))])),
  .b 4 (.of_eq (by first|rfl|simp[aV,bw,aQ,ho,h4]|simp[aV,bw,aQ]):Bx.le (.cells 209 [(bP (((aV x b i).1).1)),(ah (af (((aV x b i).1).2)))]) (.cells 209 [(bP (((aV x b (i+1)).1).1)),(ah (af (((aV x b (i+1)).1).2)))]))] <| .nil)) (by kernel_rfl))
  (fun hi=>by
    have SF:=FE hx2 hb (k:=N) (by omega);obtain⟨f0,f1,f2,f3,f4,f5,f6,f7⟩:=SF;exact aB (chain [.c (oX ((bw x N),(aQ x.2 b N)) ‹_› x ‹_› _ (by omega) ‹_›:ae 332 [(.agg [(bP (bw x N)),(ah (af (aQ x.2 b N)))]),(.agg [(bP x.1),(ah (af x.2))]),(iP b)] _),
    .c (lg (((bw x N) != x.1),((aQ x.2 b N)*x.2/2^b)) ‹_› (N+1) (by omega) (by omega):ae 342 [(.agg [(bP ((bw x N) != x.1)),(ah (af ((aQ x.2 b N)*x.2/2^b)))]),(iP (((N+1):Nat):Int))] _),
    .c (ku ((bw x (N+1)),(aQ x.2 b (N+1))) ‹_›:ae 336 [(.agg [(bP (bw x (N+1))),(ah (af (aQ x.2 b (N+1))))])] _),tB 25 (decide_eq_true hN)] <| .nil) (by kernel_rfl)) (by nofun):bA 6 Tryz.f325 (Fz x b N 0) .ret ⟨43,true,[(5,.box 5 0),(4,.box 4 0)],[(5,.cells 209 [(bP (((aV x b N).2).1)),(ah (af (((aV x b N).2).2)))]),(4,.cells 209 [(bP (((aV x b N).1).1)),(ah (af (((aV x b N).1).2)))])]⟩) (chain [.o 8 (.int (by first|rfl|omega|(simp only[Nat.add_mul,Nat.one_mul];omega)):PV.le (.e (iP 1)) (.e (iP (((0+1):Nat):Int)))),
  .b 5 (.of_eq (by first|rfl|simp[aV,bw,aQ,ho,h4]|simp[aV,bw,aQ]):Bx.le (.cells 209 [(bP false),(ah (af (1*2^b)))]) (.cells 209 [(bP (((aV x b 0).2).1)),(ah (af (((aV x b 0).2).2)))])),
  .b 7 (.of_eq (by first|rfl|simp[aV,bw,aQ,ho,h4]|simp[aV,bw,aQ]):Bx.le (.cells 209 [(bP false),(ah (af (1*2^b)))]) (.cells 209 [(bP (bw x 0)),(ah (af (aQ x.2 b 0)))])),
  .b 4 (L4:Bx.le (.cells 209 [(bP false),(.v (.slice none 0 0))]) (.cells 209 [(bP (((aV x b 0).1).1)),(ah (af (((aV x b 0).1).2)))]))] <| .nil)] <| .nil) (by kernel_rfl)
theorem JT(x:Bool×Nat)(b:Nat)(hx2:x.2<=2^(b+1))(hb:b<=3000):∃ s c:Bool×Nat,s.2<2^(b+14)/\c.2<2^(b+14)/\ae 325 [(.agg [(bP x.1),(ah (af x.2))]),iP (b:Int)] (.aq [(.agg [(bP s.1),(ah (af s.2))]),(.agg [(bP c.1),(ah (af c.2))])]):=by
 obtain⟨N,n1,n2,n3,n4⟩:=L6 hx2;obtain⟨M,rfl⟩:∃ M,N=M+1:=⟨N-1,by omega⟩
 obtain⟨a1,a2⟩:=FG hx2 hb (k:=M) (by omega);exact⟨_,_,a1,a2,JS x b M hx2 hb (by omega) n3 n4⟩
open Go.RowKit Fp Pu
theorem ml(a:Bool×Nat)(b p:Nat)(ha:a.2<2^3000)(hb:b<=8000)(hp1:8<=p)(hp2:p<=512):ae 327 [(.agg [(bP a.1),(ah (af a.2))]),(iP b),(iP p)] (ai (gW a b p)):=by
 have z1:(af 1).length<=256:=ik (by decide);have z2:(af (1*2^24)).length<=256:=ik (by decide);have z3:(af a.2).length<=256:=cg ha (by decide);have hs:=tX (n:=3000) ha (show 1*2^24<2^25 by decide) (by decide) (by decide);have z4:(af (a.2+1*2^24)).length<=256:=cg hs (by decide);have l1:=Nat.lt_of_le_of_lt (show(aT a ((!false),(1*2^24))).2<=_ from kv _ _) hs
 have l2:=Nat.lt_of_le_of_lt (show(aT a (false,(1*2^24))).2<=_ from kv _ _) hs;have z5:(af (aT a ((!false),(1*2^24))).2).length<=256:=cg l1 (by decide);have z6:(af (aT a (false,(1*2^24))).2).length<=256:=cg l2 (by decide);have e3:(0-(b:Int)) = -(b:Int):=Int.zero_sub _
 have r1:cW (canon (aT a ((!false),(1*2^24))).1 (aT a ((!false),(1*2^24))).2 (0-(b:Int))):=by rw[e3];exact DH (q9 (k:=4000) l1 (by decide)) hb
 have r2:cW (canon (aT a (false,(1*2^24))).1 (aT a (false,(1*2^24))).2 (0-(b:Int))):=by rw[e3];exact DH (q9 (k:=4000) l2 (by decide)) hb
 have v1:(canon (aT a ((!false),(1*2^24))).1 (aT a ((!false),(1*2^24))).2 (0-(b:Int))).Valid:=DI r1;have v2:(canon (aT a (false,(1*2^24))).1 (aT a (false,(1*2^24))).2 (0-(b:Int))).Valid:=DI r2
 have hN:gW a b p=ck (bq (canon (aT a ((!false),(1*2^24))).1 (aT a ((!false),(1*2^24))).2 (0-(b:Int))) p false) (bg (canon (aT a ((!false),(1*2^24))).1 (aT a ((!false),(1*2^24))).2 (0-(b:Int))) p false) (bq (canon (aT a (false,(1*2^24))).1 (aT a (false,(1*2^24))).2 (0-(b:Int))) p true) (bg (canon (aT a (false,(1*2^24))).1 (aT a (false,(1*2^24))).2 (0-(b:Int))) p true):=by rw[e3];rfl
 exact tr true Tryz.call327 Tryz.func327 (chain [.o 14 (.e one_le:PV.le (.e (.sl false 1 1 fun i_ j_=>[(.v (.int .u32 1))].getD (i_*1+j_) (.v (.bool false)))) (.e (ah (af 1)))),.c (mj 1 24 ‹_› (by omega) ‹_›),
  .c (jt (false,(1*2^24)):ae 326 [(.agg [(bP false),(ah (af (1*2^24)))])] _),
  .c (ig a ‹_› ((!false),(1*2^24)) ‹_› ‹_›:ae 335 [(.agg [(bP a.1),(ah (af a.2))]),(.agg [(bP (!false)),(ah (af (1*2^24)))])] _),
  .c (ig a ‹_› (false,(1*2^24)) ‹_› ‹_›:ae 335 [(.agg [(bP a.1),(ah (af a.2))]),(.agg [(bP false),(ah (af (1*2^24)))])] _),ar (0-(b:Int)) (by omega),
  .c (np _ _ _ ‹_› (by omega) (by omega) ‹_›:ae 262 [(bP ((aT a ((!false),(1*2^24))).1)),(ah (af ((aT a ((!false),(1*2^24))).2))),(iP (0-(b:Int)))] _),
  ar (0-(b:Int)) (by omega),
  .c (np _ _ _ ‹_› (by omega) (by omega) ‹_›:ae 262 [(bP ((aT a (false,(1*2^24))).1)),(ah (af ((aT a (false,(1*2^24))).2))),(iP (0-(b:Int)))] _),
  tB 45 (by decide:((0:Int) != 0)=false),tB 48 (by decide:((0:Int) != 0)=false),
  .c (sr (canon ((aT a (!false,(1*2^24))).1) ((aT a (!false,(1*2^24))).2) (0-(b:Int))) p ‹_› (by omega) (by omega)),
  .c (ss (canon ((aT a (false,(1*2^24))).1) ((aT a (false,(1*2^24))).2) (0-(b:Int))) p ‹_› (by omega) (by omega))] <| .w ((bg (canon ((aT a ((!false),(1*2^24))).1) ((aT a ((!false),(1*2^24))).2) (0-(b:Int))) p false)=0)
  (fun k1=>chain [tB 64 (bne_eq_false_iff_eq.2 k1)] <| .w ((bg (canon ((aT a (false,(1*2^24))).1) ((aT a (false,(1*2^24))).2) (0-(b:Int))) p true)=0)
   (fun k2=>chain [tB 67 (bne_eq_false_iff_eq.2 k2)]<|rQ (ai (Iv.mk (bq (canon ((aT a ((!false),(1*2^24))).1) ((aT a ((!false),(1*2^24))).2) (0-(b:Int))) p false) (bq (canon ((aT a (false,(1*2^24))).1) ((aT a (false,(1*2^24))).2) (0-(b:Int))) p true) false)) (ai (gW a b p)) (by rw[hN,OH k1 k2]))
   (fun k2=>chain [tB 67 (bne_iff_ne.2 k2),.c du]<|rQ (ai an) (ai (gW a b p)) (by rw[hN,Dz (.inr k2)])))
  (fun k1=>chain [tB 64 (bne_iff_ne.2 k1),.c du]<|rQ (ai an) (ai (gW a b p)) (by rw[hN,Dz (.inl k1)]))) (by kernel_rfl)
theorem JK(d:Dy)(p:Nat)(hd:d.Valid)(h0:d.sign=0)(hp1:8<=p)(hp2:p<=512):ae 315 [(ag d),(bP true),(iP p)] (ai (aP 1)):=by
 have hv:=dD (n:=1) (by decide);exact tr true Tryz.call315 Tryz.func315 (chain [.c (dt _ ‹_›:ae 35 [(ag d)] _),tB 14 (by rw[h0];rfl:((Dy.sign d)==0)=true),.c (dB _ (by omega):ae 113 [(iP 1)] _),.c (pd (ay 1) ‹_›)] <| .nil) (by kernel_rfl)
theorem JC(d:Dy)(p:Nat)(r s c:Bool×Nat)(hd:d.Valid)(h0:d.sign≠0)(hRed:ae 324 [ag d,iP (((p+64):Nat):Int)] (.aq [(.agg [(bP r.1),(ah (af r.2))]),(iP 0)]))(hSer:ae 325 [(.agg [(bP r.1),(ah (af r.2))]),iP (((p+64):Nat):Int)] (.aq [(.agg [(bP s.1),(ah (af s.2))]),(.agg [(bP c.1),(ah (af c.2))])]))(zs:s.2<2^3000)(zc:c.2<2^3000)(hp1:8<=p)(hp2:p<=512):ae 315 [(ag d),(bP true),(iP p)] (ai (gW c (p+64) p)):=by
 have zk:c.2<2^3000:=zc;exact tr true Tryz.call315 Tryz.func315 (chain [.c (dt _ ‹_›:ae 35 [(ag d)] _),tB 14 (by simpa using h0:((Dy.sign d)==0)=false),ar ((p:Int)+64) (by omega),.c (hRed:ae 324 [(ag d),(iP (((p+64):Nat):Int))] _),
  .c (hSer:ae 325 [(.agg [(bP r.1),(ah (af r.2))]),(iP (((p+64):Nat):Int))] _),ar (0+1) (by omega),.a (by omega:0<(4:Int)),.o 38 (.int (by decide):PV.le (.e (iP (Int.tmod (0+1) 4))) (.e (iP 1))),
  tB 40 (by decide:((1:Int)==1)=true),.c (ml c _ _ ‹_› (by omega) (by omega) (by omega):ae 327 [(.agg [(bP c.1),(ah (af c.2))]),(iP (((p+64):Nat):Int)),(iP p)] _)] <| .nil) (by kernel_rfl)
theorem JD(d:Dy)(p:Nat)(r s c:Bool×Nat)(hd:d.Valid)(h0:d.sign≠0)(hRed:ae 324 [ag d,iP (((p+64):Nat):Int)] (.aq [(.agg [(bP r.1),(ah (af r.2))]),(iP 1)]))(hSer:ae 325 [(.agg [(bP r.1),(ah (af r.2))]),iP (((p+64):Nat):Int)] (.aq [(.agg [(bP s.1),(ah (af s.2))]),(.agg [(bP c.1),(ah (af c.2))])]))(zs:s.2<2^3000)(zc:c.2<2^3000)(hp1:8<=p)(hp2:p<=512):ae 315 [(ag d),(bP true),(iP p)] (ai (gW ((!s.1),s.2) (p+64) p)):=by
 have zk:((!s.1),s.2).2<2^3000:=zs;exact tr true Tryz.call315 Tryz.func315 (chain [.c (dt _ ‹_›:ae 35 [(ag d)] _),tB 14 (by simpa using h0:((Dy.sign d)==0)=false),ar ((p:Int)+64) (by omega),.c (hRed:ae 324 [(ag d),(iP (((p+64):Nat):Int))] _),
  .c (hSer:ae 325 [(.agg [(bP r.1),(ah (af r.2))]),(iP (((p+64):Nat):Int))] _),ar (1+1) (by omega),.a (by omega:0<(4:Int)),.o 38 (.int (by decide):PV.le (.e (iP (Int.tmod (1+1) 4))) (.e (iP 2))),
  tB 40 (by decide:((2:Int)==1)=false),tB 43 (by decide:((2:Int)==2)=true),.c (jt (s.1,s.2):ae 326 [(.agg [(bP s.1),(ah (af s.2))])] _),
  .c (ml ((!s.1),s.2) _ _ ‹_› (by omega) (by omega) (by omega):ae 327 [(.agg [(bP (!s.1)),(ah (af s.2))]),(iP (((p+64):Nat):Int)),(iP p)] _)] <| .nil) (by kernel_rfl)
theorem JE(d:Dy)(p:Nat)(r s c:Bool×Nat)(hd:d.Valid)(h0:d.sign≠0)(hRed:ae 324 [ag d,iP (((p+64):Nat):Int)] (.aq [(.agg [(bP r.1),(ah (af r.2))]),(iP 2)]))(hSer:ae 325 [(.agg [(bP r.1),(ah (af r.2))]),iP (((p+64):Nat):Int)] (.aq [(.agg [(bP s.1),(ah (af s.2))]),(.agg [(bP c.1),(ah (af c.2))])]))(zs:s.2<2^3000)(zc:c.2<2^3000)(hp1:8<=p)(hp2:p<=512):ae 315 [(ag d),(bP true),(iP p)] (ai (gW ((!c.1),c.2) (p+64) p)):=by
 have zk:((!c.1),c.2).2<2^3000:=zc;exact tr true Tryz.call315 Tryz.func315 (chain [.c (dt _ ‹_›:ae 35 [(ag d)] _),tB 14 (by simpa using h0:((Dy.sign d)==0)=false),ar ((p:Int)+64) (by omega),.c (hRed:ae 324 [(ag d),(iP (((p+64):Nat):Int))] _),
  .c (hSer:ae 325 [(.agg [(bP r.1),(ah (af r.2))]),(iP (((p+64):Nat):Int))] _),ar (2+1) (by omega),.a (by omega:0<(4:Int)),.o 38 (.int (by decide):PV.le (.e (iP (Int.tmod (2+1) 4))) (.e (iP 3))),
  tB 40 (by decide:((3:Int)==1)=false),tB 43 (by decide:((3:Int)==2)=false),tB 47 (by decide:((3:Int)==3)=true),.c (jt (c.1,c.2):ae 326 [(.agg [(bP c.1),(ah (af c.2))])] _),
  .c (ml ((!c.1),c.2) _ _ ‹_› (by omega) (by omega) (by omega):ae 327 [(.agg [(bP (!c.1)),(ah (af c.2))]),(iP (((p+64):Nat):Int)),(iP p)] _)] <| .nil) (by kernel_rfl)
theorem JF(d:Dy)(p:Nat)(r s c:Bool×Nat)(hd:d.Valid)(h0:d.sign≠0)(hRed:ae 324 [ag d,iP (((p+64):Nat):Int)] (.aq [(.agg [(bP r.1),(ah (af r.2))]),(iP 3)]))(hSer:ae 325 [(.agg [(bP r.1),(ah (af r.2))]),iP (((p+64):Nat):Int)] (.aq [(.agg [(bP s.1),(ah (af s.2))]),(.agg [(bP c.1),(ah (af c.2))])]))(zs:s.2<2^3000)(zc:c.2<2^3000)(hp1:8<=p)(hp2:p<=512):ae 315 [(ag d),(bP true),(iP p)] (ai (gW s (p+64) p)):=by
 have zk:s.2<2^3000:=zs;exact tr true Tryz.call315 Tryz.func315 (chain [.c (dt _ ‹_›:ae 35 [(ag d)] _),tB 14 (by simpa using h0:((Dy.sign d)==0)=false),ar ((p:Int)+64) (by omega),.c (hRed:ae 324 [(ag d),(iP (((p+64):Nat):Int))] _),
  .c (hSer:ae 325 [(.agg [(bP r.1),(ah (af r.2))]),(iP (((p+64):Nat):Int))] _),ar (3+1) (by omega),.a (by omega:0<(4:Int)),.o 38 (.int (by decide):PV.le (.e (iP (Int.tmod (3+1) 4))) (.e (iP 0))),
  tB 40 (by decide:((0:Int)==1)=false),tB 43 (by decide:((0:Int)==2)=false),tB 47 (by decide:((0:Int)==3)=false),
  .c (ml s _ _ ‹_› (by omega) (by omega) (by omega):ae 327 [(.agg [(bP s.1),(ah (af s.2))]),(iP (((p+64):Nat):Int)),(iP p)] _)] <| .nil) (by kernel_rfl)
theorem JL(d:Dy)(p:Nat)(hd:d.Valid)(h0:d.sign=0)(hp1:8<=p)(hp2:p<=512):ae 315 [(ag d),(bP false),(iP p)] (ai (cG d)):=by
 exact tr true Tryz.call315 Tryz.func315 (chain [.c (dt _ ‹_›:ae 35 [(ag d)] _),tB 14 (by rw[h0];rfl:((Dy.sign d)==0)=true),.c (pd d ‹_›)] <| .nil) (by kernel_rfl)
theorem JG(d:Dy)(p:Nat)(r s c:Bool×Nat)(hd:d.Valid)(h0:d.sign≠0)(hRed:ae 324 [ag d,iP (((p+64):Nat):Int)] (.aq [(.agg [(bP r.1),(ah (af r.2))]),(iP 0)]))(hSer:ae 325 [(.agg [(bP r.1),(ah (af r.2))]),iP (((p+64):Nat):Int)] (.aq [(.agg [(bP s.1),(ah (af s.2))]),(.agg [(bP c.1),(ah (af c.2))])]))(zs:s.2<2^3000)(zc:c.2<2^3000)(hp1:8<=p)(hp2:p<=512):ae 315 [(ag d),(bP false),(iP p)] (ai (gW s (p+64) p)):=by
 have zk:s.2<2^3000:=zs;exact tr true Tryz.call315 Tryz.func315 (chain [.c (dt _ ‹_›:ae 35 [(ag d)] _),tB 14 (by simpa using h0:((Dy.sign d)==0)=false),ar ((p:Int)+64) (by omega),.c (hRed:ae 324 [(ag d),(iP (((p+64):Nat):Int))] _),
  .c (hSer:ae 325 [(.agg [(bP r.1),(ah (af r.2))]),(iP (((p+64):Nat):Int))] _),.a (by omega:0<(4:Int)),.o 38 (.int (by decide):PV.le (.e (iP (Int.tmod 0 4))) (.e (iP 0))),
  tB 40 (by decide:((0:Int)==1)=false),tB 43 (by decide:((0:Int)==2)=false),tB 47 (by decide:((0:Int)==3)=false),
  .c (ml s _ _ ‹_› (by omega) (by omega) (by omega):ae 327 [(.agg [(bP s.1),(ah (af s.2))]),(iP (((p+64):Nat):Int)),(iP p)] _)] <| .nil) (by kernel_rfl)
theorem JH(d:Dy)(p:Nat)(r s c:Bool×Nat)(hd:d.Valid)(h0:d.sign≠0)(hRed:ae 324 [ag d,iP (((p+64):Nat):Int)] (.aq [(.agg [(bP r.1),(ah (af r.2))]),(iP 1)]))(hSer:ae 325 [(.agg [(bP r.1),(ah (af r.2))]),iP (((p+64):Nat):Int)] (.aq [(.agg [(bP s.1),(ah (af s.2))]),(.agg [(bP c.1),(ah (af c.2))])]))(zs:s.2<2^3000)(zc:c.2<2^3000)(hp1:8<=p)(hp2:p<=512):ae 315 [(ag d),(bP false),(iP p)] (ai (gW c (p+64) p)):=by
 have zk:c.2<2^3000:=zc;exact tr true Tryz.call315 Tryz.func315 (chain [.c (dt _ ‹_›:ae 35 [(ag d)] _),tB 14 (by simpa using h0:((Dy.sign d)==0)=false),ar ((p:Int)+64) (by omega),.c (hRed:ae 324 [(ag d),(iP (((p+64):Nat):Int))] _),
  .c (hSer:ae 325 [(.agg [(bP r.1),(ah (af r.2))]),(iP (((p+64):Nat):Int))] _),.a (by omega:0<(4:Int)),.o 38 (.int (by decide):PV.le (.e (iP (Int.tmod 1 4))) (.e (iP 1))),tB 40 (by decide:((1:Int)==1)=true),
  .c (ml c _ _ ‹_› (by omega) (by omega) (by omega):ae 327 [(.agg [(bP c.1),(ah (af c.2))]),(iP (((p+64):Nat):Int)),(iP p)] _)] <| .nil) (by kernel_rfl)
theorem JI(d:Dy)(p:Nat)(r s c:Bool×Nat)(hd:d.Valid)(h0:d.sign≠0)(hRed:ae 324 [ag d,iP (((p+64):Nat):Int)] (.aq [(.agg [(bP r.1),(ah (af r.2))]),(iP 2)]))(hSer:ae 325 [(.agg [(bP r.1),(ah (af r.2))]),iP (((p+64):Nat):Int)] (.aq [(.agg [(bP s.1),(ah (af s.2))]),(.agg [(bP c.1),(ah (af c.2))])]))(zs:s.2<2^3000)(zc:c.2<2^3000)(hp1:8<=p)(hp2:p<=512):ae 315 [(ag d),(bP false),(iP p)] (ai (gW ((!s.1),s.2) (p+64) p)):=by
 have zk:((!s.1),s.2).2<2^3000:=zs;exact tr true Tryz.call315 Tryz.func315 (chain [.c (dt _ ‹_›:ae 35 [(ag d)] _),tB 14 (by simpa using h0:((Dy.sign d)==0)=false),ar ((p:Int)+64) (by omega),.c (hRed:ae 324 [(ag d),(iP (((p+64):Nat):Int))] _),
  .c (hSer:ae 325 [(.agg [(bP r.1),(ah (af r.2))]),(iP (((p+64):Nat):Int))] _),.a (by omega:0<(4:Int)),.o 38 (.int (by decide):PV.le (.e (iP (Int.tmod 2 4))) (.e (iP 2))),
  tB 40 (by decide:((2:Int)==1)=false),tB 43 (by decide:((2:Int)==2)=true),.c (jt (s.1,s.2):ae 326 [(.agg [(bP s.1),(ah (af s.2))])] _),
  .c (ml ((!s.1),s.2) _ _ ‹_› (by omega) (by omega) (by omega):ae 327 [(.agg [(bP (!s.1)),(ah (af s.2))]),(iP (((p+64):Nat):Int)),(iP p)] _)] <| .nil) (by kernel_rfl)
theorem JJ(d:Dy)(p:Nat)(r s c:Bool×Nat)(hd:d.Valid)(h0:d.sign≠0)(hRed:ae 324 [ag d,iP (((p+64):Nat):Int)] (.aq [(.agg [(bP r.1),(ah (af r.2))]),(iP 3)]))(hSer:ae 325 [(.agg [(bP r.1),(ah (af r.2))]),iP (((p+64):Nat):Int)] (.aq [(.agg [(bP s.1),(ah (af s.2))]),(.agg [(bP c.1),(ah (af c.2))])]))(zs:s.2<2^3000)(zc:c.2<2^3000)(hp1:8<=p)(hp2:p<=512):ae 315 [(ag d),(bP false),(iP p)] (ai (gW ((!c.1),c.2) (p+64) p)):=by
 have zk:((!c.1),c.2).2<2^3000:=zc;exact tr true Tryz.call315 Tryz.func315 (chain [.c (dt _ ‹_›:ae 35 [(ag d)] _),tB 14 (by simpa using h0:((Dy.sign d)==0)=false),ar ((p:Int)+64) (by omega),.c (hRed:ae 324 [(ag d),(iP (((p+64):Nat):Int))] _),
  .c (hSer:ae 325 [(.agg [(bP r.1),(ah (af r.2))]),(iP (((p+64):Nat):Int))] _),.a (by omega:0<(4:Int)),.o 38 (.int (by decide):PV.le (.e (iP (Int.tmod 3 4))) (.e (iP 3))),
  tB 40 (by decide:((3:Int)==1)=false),tB 43 (by decide:((3:Int)==2)=false),tB 47 (by decide:((3:Int)==3)=true),.c (jt (c.1,c.2):ae 326 [(.agg [(bP c.1),(ah (af c.2))])] _),
  .c (ml ((!c.1),c.2) _ _ ‹_› (by omega) (by omega) (by omega):ae 327 [(.agg [(bP (!c.1)),(ah (af c.2))]),(iP (((p+64):Nat):Int)),(iP p)] _)] <| .nil) (by kernel_rfl)
theorem A8{d:Dy}(hd:d.Valid)(ht:d.top<=100)(cs:Bool){p:Nat}(hp1:8<=p)(hp2:p<=512):∃ Z,Z.Valid/\ae 315 [ag d,bP cs,iP (p:Int)] (ai Z):=by
 by_cases h0:d.sign=0
 .cases cs with
  | true=>exact⟨_,jD (by decide),JK d p hd h0 hp1 hp2⟩
  | false=>exact⟨_,jG hd,JL d p hd h0 hp1 hp2⟩
 .obtain ⟨r,k,hr,hk,hRed⟩:=JM d (p+64) hd (by omega) (by omega) ht
  obtain⟨s,c,zs,zc,hSer⟩:=JT r (p+64) hr (by omega);have zs:=q9 zs (k:=3000) (by omega);have zc:=q9 zc (k:=3000) (by omega);have hv:∀ a:Bool×Nat,(gW a (p+64) p).Valid:=fun a=>Pb a _ (by omega) (by omega)
  rcases(show k=0\/k=1\/k=2\/k=3 by omega)with rfl|rfl|rfl|rfl
  .cases cs with
   | true=>exact⟨_,hv _,JC d p r s c hd h0 hRed hSer zs zc hp1 hp2⟩
   | false=>exact⟨_,hv _,JG d p r s c hd h0 hRed hSer zs zc hp1 hp2⟩
  .cases cs with
   | true=>exact⟨_,hv _,JD d p r s c hd h0 hRed hSer zs zc hp1 hp2⟩
   | false=>exact⟨_,hv _,JH d p r s c hd h0 hRed hSer zs zc hp1 hp2⟩
  .cases cs with
   | true=>exact⟨_,hv _,JE d p r s c hd h0 hRed hSer zs zc hp1 hp2⟩
   | false=>exact⟨_,hv _,JI d p r s c hd h0 hRed hSer zs zc hp1 hp2⟩
  .cases cs with
   | true=>exact⟨_,hv _,JF d p r s c hd h0 hRed hSer zs zc hp1 hp2⟩
   | false=>exact⟨_,hv _,JJ d p r s c hd h0 hRed hSer zs zc hp1 hp2⟩
open Go.RowKit Fp Pu
theorem Ng:(ay (-1)).neg=true/\(ay (-1)).m=1/\(ay (-1)).e=0:=by decide +kernel
theorem JV  : ae 331 [(iP (-1))] (.agg [(bP true),(ah (af 1))]):=by
 obtain⟨q1,q2,q3⟩:=Ng;have z1:(af (ay (-1)).m).length<=256:=by rw[q2];exact ik (by decide)
 have z2:(af ((ay (-1)).m*2^(Int.toNat (ay (-1)).e))).length<=256:=by rw[q2,q3];exact ik (by decide)
 exact tr true Tryz.call331 Tryz.func331 (chain [.c (dB _ (by omega):ae 113 [(iP (-1))] _),.c (vv _ _ ‹_› (by omega) (by omega) ‹_›:ae 329 [(ah (af ((ay (-1)).m))),(iP ((ay (-1)).e))] _)]<|rQ (.agg [(bP ((ay (-1)).neg)),(ah (af (((ay (-1)).m)*2^(Int.toNat ((ay (-1)).e)))))]) (.agg [(bP true),(ah (af 1))]) (by rw[q1,q2,q3];rfl)) (by kernel_rfl)
theorem Ju(a c:Bool×Nat)(za:(af a.2).length<=256)(zc:(af c.2).length<=256)(c0:c.2≠0)(zs:(af (a.2/c.2+1)).length<=256)(h1:a.1=false):ae 333 [(.agg [(bP a.1),(ah (af a.2))]),(.agg [(bP c.1),(ah (af c.2))])] (.agg [(bP ((eE a c).1)),(ah (af ((eE a c).2)))]):=by
 have zq:(af (a.2/c.2)).length<=256:=Nat.le_trans (cK (Nat.div_le_self _ _)) za;have zr:(af (a.2%c.2)).length<=256:=Nat.le_trans (cK (Nat.mod_le _ _)) za;have z1:(af 1).length<=256:=ik (by decide);have e:eE a c=(a.1,a.2/c.2):=by unfold eE;rw[if_neg (by rw[h1];exact fun q=>Bool.noConfusion q.1)]
 exact tr true Tryz.call333 Tryz.func333 (chain [.c (lr _ _ (by omega) (by omega) ‹_›:ae 296 [(ah (af a.2)),(ah (af c.2))] _),tB 19 (h1:a.1=false),tB 23 (h1:a.1=false)]<|rQ (.agg [(bP false),(ah (af (a.2/c.2)))]) (.agg [(bP ((eE a c).1)),(ah (af ((eE a c).2)))]) (by rw[e,h1])) (by kernel_rfl)
theorem Jr(a c:Bool×Nat)(za:(af a.2).length<=256)(zc:(af c.2).length<=256)(c0:c.2≠0)(zs:(af (a.2/c.2+1)).length<=256)(h1:a.1=true)(h2:a.2%c.2=0):ae 333 [(.agg [(bP a.1),(ah (af a.2))]),(.agg [(bP c.1),(ah (af c.2))])] (.agg [(bP ((eE a c).1)),(ah (af ((eE a c).2)))]):=by
 have zq:(af (a.2/c.2)).length<=256:=Nat.le_trans (cK (Nat.div_le_self _ _)) za;have zr:(af (a.2%c.2)).length<=256:=Nat.le_trans (cK (Nat.mod_le _ _)) za;have z1:(af 1).length<=256:=ik (by decide);have e:eE a c=(a.1,a.2/c.2):=by unfold eE;rw[if_neg (fun q=>q.2 h2)]
 exact tr true Tryz.call333 Tryz.func333 (chain [.c (lr _ _ (by omega) (by omega) ‹_›:ae 296 [(ah (af a.2)),(ah (af c.2))] _),tB 19 (h1:a.1=true),tB 23 (h1:a.1=true),.c (gV _ (by omega):ae 194 [(ah (af (a.2%c.2)))] _),
  tF 27 (0<((aj (a.2%c.2):Nat):Int)) (by rw[h2,gQ];decide)]<|rQ (.agg [(bP true),(ah (af (a.2/c.2)))]) (.agg [(bP ((eE a c).1)),(ah (af ((eE a c).2)))]) (by rw[e,h1])) (by kernel_rfl)
theorem Js(a c:Bool×Nat)(za:(af a.2).length<=256)(zc:(af c.2).length<=256)(c0:c.2≠0)(zs:(af (a.2/c.2+1)).length<=256)(h1:a.1=true)(h2:a.2%c.2≠0):ae 333 [(.agg [(bP a.1),(ah (af a.2))]),(.agg [(bP c.1),(ah (af c.2))])] (.agg [(bP ((eE a c).1)),(ah (af ((eE a c).2)))]):=by
 have zq:(af (a.2/c.2)).length<=256:=Nat.le_trans (cK (Nat.div_le_self _ _)) za;have zr:(af (a.2%c.2)).length<=256:=Nat.le_trans (cK (Nat.mod_le _ _)) za;have z1:(af 1).length<=256:=ik (by decide);have e:eE a c=aT (a.1,a.2/c.2) (true,1):=by unfold eE;rw[if_pos ⟨h1,h2⟩]
 exact tr true Tryz.call333 Tryz.func333 (chain [.c (lr _ _ (by omega) (by omega) ‹_›:ae 296 [(ah (af a.2)),(ah (af c.2))] _),tB 19 (h1:a.1=true),tB 23 (h1:a.1=true),.c (gV _ (by omega):ae 194 [(ah (af (a.2%c.2)))] _),
  tT 27 (0<((aj (a.2%c.2):Nat):Int)) (by have:=dZ h2;omega),.c JV,
  .c (ig (true,(a.2/c.2)) ‹_› (true,1) ‹_› ‹_›:ae 335 [(.agg [(bP true),(ah (af (a.2/c.2)))]),(.agg [(bP true),(ah (af 1))])] _)]<|rQ (.agg [(bP ((aT (true,(a.2/c.2)) (true,1)).1)),(ah (af ((aT (true,(a.2/c.2)) (true,1)).2)))]) (.agg [(bP ((eE a c).1)),(ah (af ((eE a c).2)))]) (by rw[e,h1])) (by kernel_rfl)
theorem Jt(a c:Bool×Nat)(za:(af a.2).length<=256)(zc:(af c.2).length<=256)(c0:c.2≠0)(zs:(af (a.2/c.2+1)).length<=256):ae 333 [(.agg [(bP a.1),(ah (af a.2))]),(.agg [(bP c.1),(ah (af c.2))])] (.agg [(bP ((eE a c).1)),(ah (af ((eE a c).2)))]):=by
 cases h1:a.1 with
 | false=>rw[<-h1];exact Ju a c za zc c0 zs h1
 | true =>
  rw[<-h1];by_cases h2:a.2%c.2=0
  .exact Jr a c za zc c0 zs h1 h2
  .exact Js a c za zc c0 zs h1 h2
theorem Jy(x:Iv)(n p t w2 sg eg mm:Nat)(cp u v c1 a0 a1 k l0 d0 d1:Bool×Nat)(hx:x.Valid)(xa:x.all=false)(hn:n<=3)(hp2:p<=2000)(ht:(t:Int)=max (max x.lo.top x.hi.top) 0)(t2:t<=2000)(zd:(af d1.2).length<=256)(hPi:ae 328 [iP ((((p+t)+40):Nat):Int)] (.agg [(bP cp.1),(ah (af cp.2))]))(hU:ae 334 [ag x.hi,iP ((((p+t)+40):Nat):Int)] (.agg [(bP u.1),(ah (af u.2))]))(hV:ae 334 [ag x.lo,iP ((((p+t)+40):Nat):Int)] (.agg [(bP v.1),(ah (af v.2))]))(hW:ae 329 [(ah (af cp.2)),iP ((1:Nat):Int)] (ah (af w2)))(hC1:ae 332 [(.agg [(bP false),(ah (af n))]),(.agg [(bP cp.1),(ah (af cp.2))]),iP ((0:Nat):Int)] (.agg [(bP c1.1),(ah (af c1.2))]))(hS:ae 330 [(ah (af c1.2)),iP ((1:Nat):Int)] (ah (af sg)))(hE:ae 329 [(ah (af 1)),iP ((((t+24)+4):Nat):Int)] (ah (af eg)))(hA0:ae 335 [(.agg [(bP u.1),(ah (af u.2))]),(.agg [(bP (!false)),(ah (af sg))])] (.agg [(bP a0.1),(ah (af a0.2))]))(hA1:ae 335 [(.agg [(bP a0.1),(ah (af a0.2))]),(.agg [(bP false),(ah (af eg))])] (.agg [(bP a1.1),(ah (af a1.2))]))(hK:ae 333 [(.agg [(bP a1.1),(ah (af a1.2))]),(.agg [(bP false),(ah (af w2))])] (.agg [(bP k.1),(ah (af k.2))]))(hM:ae 181 [(ah (af k.2)),(ah (af w2))] (.aq [(ah (af mm)),(iP 0)]))(hL0:ae 335 [(.agg [(bP k.1),(ah (af mm))]),(.agg [(bP false),(ah (af sg))])] (.agg [(bP l0.1),(ah (af l0.2))]))(hD0:ae 335 [(.agg [(bP l0.1),(ah (af l0.2))]),(.agg [(bP (!v.1)),(ah (af v.2))])] (.agg [(bP d0.1),(ah (af d0.2))]))(hD1:ae 335 [(.agg [(bP d0.1),(ah (af d0.2))]),(.agg [(bP false),(ah (af eg))])] (.agg [(bP d1.1),(ah (af d1.2))]))(hz:d1.2=0):ae 316 [(ai x),(iP n),(iP p)] (bP true):=by
 obtain⟨w1,w2'⟩:=hx.ends;have z1:(af 1).length<=256:=ik (by decide);exact tr true Tryz.call316 Tryz.func316 (chain [.c (bS _ ‹_›:ae 130 [(ag x.lo)] _),.c (bS _ ‹_›:ae 130 [(ag x.hi)] _),
  .o 24 (.int (by(repeat' split)<;>omega):PV.le (.e (iP (if 0>(if(Dy.top x.hi)>(Dy.top x.lo)then(Dy.top x.hi)else(Dy.top x.lo))then 0 else(if(Dy.top x.hi)>(Dy.top x.lo)then(Dy.top x.hi)else(Dy.top x.lo))))) (.e (iP t))),
  ar ((p:Int)+(t:Int)) (by omega),ar ((((p+t):Nat):Int)+40) (by omega),.c (hPi:ae 328 [(iP ((((p+t)+40):Nat):Int))] _),.c (hW:ae 329 [(ah (af cp.2)),(iP 1)] _),
  .c (vz n (by omega)),.c (hC1:ae 332 [(.agg [(bP false),(ah (af n))]),(.agg [(bP cp.1),(ah (af cp.2))]),(iP 0)] _),.c (hS:ae 330 [(ah (af c1.2)),(iP 1)] _),
  .o 42 (.e one_le:PV.le (.e (.sl false 1 1 fun i_ j_=>[(.v (.int .u32 1))].getD (i_*1+j_) (.v (.bool false)))) (.e (ah (af 1)))),ar ((t:Int)+24) (by omega),ar ((((t+24):Nat):Int)+4) (by omega),
  .c (hE:ae 329 [(ah (af 1)),(iP ((((t+24)+4):Nat):Int))] _),.c (hU:ae 334 [(ag x.hi),(iP ((((p+t)+40):Nat):Int))] _),.c (jt (false,sg):ae 326 [(.agg [(bP false),(ah (af sg))])] _),
  .c (hA0:ae 335 [(.agg [(bP u.1),(ah (af u.2))]),(.agg [(bP (!false)),(ah (af sg))])] _),.c (hA1:ae 335 [(.agg [(bP a0.1),(ah (af a0.2))]),(.agg [(bP false),(ah (af eg))])] _),
  .c (hK:ae 333 [(.agg [(bP a1.1),(ah (af a1.2))]),(.agg [(bP false),(ah (af w2))])] _),.c (hM:ae 181 [(ah (af k.2)),(ah (af w2))] _),
  .c (hL0:ae 335 [(.agg [(bP k.1),(ah (af mm))]),(.agg [(bP false),(ah (af sg))])] _),.c (hV:ae 334 [(ag x.lo),(iP ((((p+t)+40):Nat):Int))] _),
  .c (jt (v.1,v.2):ae 326 [(.agg [(bP v.1),(ah (af v.2))])] _),.c (hD0:ae 335 [(.agg [(bP l0.1),(ah (af l0.2))]),(.agg [(bP (!v.1)),(ah (af v.2))])] _),
  .c (hD1:ae 335 [(.agg [(bP d0.1),(ah (af d0.2))]),(.agg [(bP false),(ah (af eg))])] _),.c (ku (d1.1,d1.2) ‹_›:ae 336 [(.agg [(bP d1.1),(ah (af d1.2))])] _),tB 83 (decide_eq_true hz)] <| .nil) (by kernel_rfl)
theorem Jx(x:Iv)(n p t w2 sg eg mm:Nat)(cp u v c1 a0 a1 k l0 d0 d1:Bool×Nat)(hx:x.Valid)(xa:x.all=false)(hn:n<=3)(hp2:p<=2000)(ht:(t:Int)=max (max x.lo.top x.hi.top) 0)(t2:t<=2000)(zd:(af d1.2).length<=256)(hPi:ae 328 [iP ((((p+t)+40):Nat):Int)] (.agg [(bP cp.1),(ah (af cp.2))]))(hU:ae 334 [ag x.hi,iP ((((p+t)+40):Nat):Int)] (.agg [(bP u.1),(ah (af u.2))]))(hV:ae 334 [ag x.lo,iP ((((p+t)+40):Nat):Int)] (.agg [(bP v.1),(ah (af v.2))]))(hW:ae 329 [(ah (af cp.2)),iP ((1:Nat):Int)] (ah (af w2)))(hC1:ae 332 [(.agg [(bP false),(ah (af n))]),(.agg [(bP cp.1),(ah (af cp.2))]),iP ((0:Nat):Int)] (.agg [(bP c1.1),(ah (af c1.2))]))(hS:ae 330 [(ah (af c1.2)),iP ((1:Nat):Int)] (ah (af sg)))(hE:ae 329 [(ah (af 1)),iP ((((t+24)+4):Nat):Int)] (ah (af eg)))(hA0:ae 335 [(.agg [(bP u.1),(ah (af u.2))]),(.agg [(bP (!false)),(ah (af sg))])] (.agg [(bP a0.1),(ah (af a0.2))]))(hA1:ae 335 [(.agg [(bP a0.1),(ah (af a0.2))]),(.agg [(bP false),(ah (af eg))])] (.agg [(bP a1.1),(ah (af a1.2))]))(hK:ae 333 [(.agg [(bP a1.1),(ah (af a1.2))]),(.agg [(bP false),(ah (af w2))])] (.agg [(bP k.1),(ah (af k.2))]))(hM:ae 181 [(ah (af k.2)),(ah (af w2))] (.aq [(ah (af mm)),(iP 0)]))(hL0:ae 335 [(.agg [(bP k.1),(ah (af mm))]),(.agg [(bP false),(ah (af sg))])] (.agg [(bP l0.1),(ah (af l0.2))]))(hD0:ae 335 [(.agg [(bP l0.1),(ah (af l0.2))]),(.agg [(bP (!v.1)),(ah (af v.2))])] (.agg [(bP d0.1),(ah (af d0.2))]))(hD1:ae 335 [(.agg [(bP d0.1),(ah (af d0.2))]),(.agg [(bP false),(ah (af eg))])] (.agg [(bP d1.1),(ah (af d1.2))]))(hz:¬d1.2=0):ae 316 [(ai x),(iP n),(iP p)] (bP (!d1.1)):=by
 obtain⟨w1,w2'⟩:=hx.ends;have z1:(af 1).length<=256:=ik (by decide);exact tr true Tryz.call316 Tryz.func316 (chain [.c (bS _ ‹_›:ae 130 [(ag x.lo)] _),.c (bS _ ‹_›:ae 130 [(ag x.hi)] _),
  .o 24 (.int (by(repeat' split)<;>omega):PV.le (.e (iP (if 0>(if(Dy.top x.hi)>(Dy.top x.lo)then(Dy.top x.hi)else(Dy.top x.lo))then 0 else(if(Dy.top x.hi)>(Dy.top x.lo)then(Dy.top x.hi)else(Dy.top x.lo))))) (.e (iP t))),
  ar ((p:Int)+(t:Int)) (by omega),ar ((((p+t):Nat):Int)+40) (by omega),.c (hPi:ae 328 [(iP ((((p+t)+40):Nat):Int))] _),.c (hW:ae 329 [(ah (af cp.2)),(iP 1)] _),
  .c (vz n (by omega)),.c (hC1:ae 332 [(.agg [(bP false),(ah (af n))]),(.agg [(bP cp.1),(ah (af cp.2))]),(iP 0)] _),.c (hS:ae 330 [(ah (af c1.2)),(iP 1)] _),
  .o 42 (.e one_le:PV.le (.e (.sl false 1 1 fun i_ j_=>[(.v (.int .u32 1))].getD (i_*1+j_) (.v (.bool false)))) (.e (ah (af 1)))),ar ((t:Int)+24) (by omega),ar ((((t+24):Nat):Int)+4) (by omega),
  .c (hE:ae 329 [(ah (af 1)),(iP ((((t+24)+4):Nat):Int))] _),.c (hU:ae 334 [(ag x.hi),(iP ((((p+t)+40):Nat):Int))] _),.c (jt (false,sg):ae 326 [(.agg [(bP false),(ah (af sg))])] _),
  .c (hA0:ae 335 [(.agg [(bP u.1),(ah (af u.2))]),(.agg [(bP (!false)),(ah (af sg))])] _),.c (hA1:ae 335 [(.agg [(bP a0.1),(ah (af a0.2))]),(.agg [(bP false),(ah (af eg))])] _),
  .c (hK:ae 333 [(.agg [(bP a1.1),(ah (af a1.2))]),(.agg [(bP false),(ah (af w2))])] _),.c (hM:ae 181 [(ah (af k.2)),(ah (af w2))] _),
  .c (hL0:ae 335 [(.agg [(bP k.1),(ah (af mm))]),(.agg [(bP false),(ah (af sg))])] _),.c (hV:ae 334 [(ag x.lo),(iP ((((p+t)+40):Nat):Int))] _),
  .c (jt (v.1,v.2):ae 326 [(.agg [(bP v.1),(ah (af v.2))])] _),.c (hD0:ae 335 [(.agg [(bP l0.1),(ah (af l0.2))]),(.agg [(bP (!v.1)),(ah (af v.2))])] _),
  .c (hD1:ae 335 [(.agg [(bP d0.1),(ah (af d0.2))]),(.agg [(bP false),(ah (af eg))])] _),.c (ku (d1.1,d1.2) ‹_›:ae 336 [(.agg [(bP d1.1),(ah (af d1.2))])] _),tB 83 (decide_eq_false hz)] <| .nil) (by kernel_rfl)
theorem qs{a b:Bool×Nat}{i j n:Nat}(ha:a.2<2^i)(hb:b.2<2^j)(hi:i<=n)(hj:j<=n)(hn:n<=8000):∃ r:Bool×Nat,r.2<2^(n+1)/\ae 335 [(.agg [(bP a.1),(ah (af a.2))]),(.agg [(bP b.1),(ah (af b.2))])] (.agg [(bP r.1),(ah (af r.2))]) :=
 ⟨aT a b,LM ha hb hi hj,ig a (cg ha (by omega)) b (cg hb (by omega)) (cg (tX ha hb hi hj) (by omega))⟩
theorem sB{x:Iv}(hx:x.Valid)(xa:x.all=false)(n:Nat)(hn:n<=3)(p:Nat)(hp2:p<=1000)(h1:x.lo.top<=100)(h2:x.hi.top<=100):∃ r:Bool,ae 316 [ai x,iP (n:Int),iP (p:Int)] (bP r):=by
 obtain⟨w1,w2⟩:=hx.ends;obtain⟨t,ht⟩:∃ t:Nat,(t:Int)=max (max x.lo.top x.hi.top) 0:=⟨(max (max x.lo.top x.hi.top) 0).toNat,by omega⟩
 obtain⟨cp,c1,c2,c3,hPi⟩:=A7 (p+t+40) (by omega) (by omega);have hU:=vw x.hi w2 (p+t+40) 6000 (by omega) (by decide) (by omega);have hV:=vw x.lo w1 (p+t+40) 6000 (by omega) (by decide) (by omega);have yu:=tN (d:=x.hi) (b:=p+t+40) (K:=6000) (by omega);have yv:=tN (d:=x.lo) (b:=p+t+40) (K:=6000) (by omega)
 have yc:=q9 (m:=cp.2) (i:=p+t+40+3) (k:=2000) (by have e:(2:Nat)^(p+t+40+3)=2^(p+t+40)*8:=Nat.pow_add 2 _ 3;have:0<2^(p+t+40):=Nat.pow_pos (by decide);omega) (by omega);generalize fM x.hi (p+t+40)=u at hU yu;generalize fM x.lo (p+t+40)=v at hV yv;obtain⟨K,hK⟩:∃ K,K=6000:=⟨_,rfl⟩
 rw[<-hK]at yu yv;obtain⟨J,hJ⟩:∃ J,J=2000:=⟨_,rfl⟩
 rw[<-hJ]at yc;have zc:(af cp.2).length<=256:=cg yc (by omega);have yw:cp.2*2^1<2^(J+1):=by have e:2^(J+1)=2^J*2:=Nat.pow_succ _ _;omega
 have hW:=mj cp.2 1 zc (by decide) (cg yw (by omega));have w0:cp.2*2^1≠0:=by omega
 generalize cp.2*2^1=w at hW yw w0;have yn:n*cp.2<2^(J+2):=by have e:2^(J+2)=2^J*4:=Nat.pow_add 2 J 2;have:=Nat.mul_le_mul_right cp.2 hn;omega
 have hC1:=oX (false,n) (ik (by show n<_;omega)) cp zc 0 (by decide) (cg yn (by omega));have y1:n*cp.2/2^0<2^(J+2):=Nat.lt_of_le_of_lt (Nat.div_le_self _ _) yn;obtain⟨q,hq⟩:∃ q:Bool×Nat,q=(false != cp.1,n*cp.2/2^0):=⟨_,rfl⟩
 have yq:q.2<2^(J+2):=by rw[hq];exact y1
 have hC2:ae 332 [(.agg [(bP false),(ah (af n))]),(.agg [(bP cp.1),(ah (af cp.2))]),iP ((0:Nat):Int)] (.agg [(bP q.1),(ah (af q.2))]):=by rw[hq];exact hC1
 clear hC1 hq;have hS:=jP q.2 1 (cg yq (by omega)) (by decide);have ys:q.2/2^1<2^(J+2):=Nat.lt_of_le_of_lt (Nat.div_le_self _ _) yq;generalize q.2/2^1=sg at hS ys;have ye:1*2^(t+24+4)<2^K:=by rw[Nat.one_mul];exact Nat.pow_lt_pow_right (by decide) (by omega)
 have hE:=mj 1 (t+24+4) (ik (by decide)) (by omega) (cg ye (by omega));generalize 1*2^(t+24+4)=eg at hE ye;obtain⟨a0,x0,hA0⟩:=qs (b:=(!false,sg)) yu ys (n:=K) (by omega) (by omega) (by omega);obtain⟨a1,x1,hA1⟩:=qs (b:=(false,eg)) x0 ye (n:=K+1) (by omega) (by omega) (by omega);have yf:a1.2/w+1<2^(K+3):=by
  have e:2^(K+3)=2^(K+1+1)*2:=Nat.pow_succ _ _;have:=Nat.div_le_self a1.2 w;have:0<2^(K+1+1):=Nat.pow_pos (by decide);omega
 have hF:=Jt a1 (false,w) (cg x1 (by omega)) (cg yw (by omega)) w0 (cg yf (by omega));have yk:=Nat.lt_of_le_of_lt (Co a1 (false,w)) yf;have ym:(eE a1 (false,w)).2*w<2^(K+3):=Nat.lt_of_le_of_lt (LY a1 (false,w)) (tX (n:=K+2) x1 yw (by omega) (by omega));generalize eE a1 (false,w)=k at hF yk ym
 have hM:=lv k.2 w (cg yk (by omega)) (cg yw (by omega)) (cg ym (by omega));generalize k.2*w=mm at hM ym;obtain⟨l0,x2,hL0⟩:=qs (a:=(k.1,mm)) (b:=(false,sg)) ym ys (n:=K+3) (by omega) (by omega) (by omega);obtain⟨d0,x3,hD0⟩:=qs (b:=(!v.1,v.2)) x2 yv (n:=K+4) (by omega) (by omega) (by omega)
 obtain⟨d1,x4,hD1⟩:=qs (b:=(false,eg)) x3 ye (n:=K+5) (by omega) (by omega) (by omega);by_cases hz:d1.2=0
 .exact ⟨_,Jy x n p t w sg eg mm cp u v q a0 a1 k l0 d0 d1 hx xa hn (by omega) ht (by omega) (cg x4 (by omega)) hPi hU hV hW hC2 hS hE hA0 hA1 hF hM hL0 hD0 hD1 hz⟩
 .exact ⟨_,Jx x n p t w sg eg mm cp u v q a0 a1 k l0 d0 d1 hx xa hn (by omega) ht (by omega) (cg x4 (by omega)) hPi hU hV hW hC2 hS hE hA0 hA1 hF hM hL0 hD0 hD1 hz⟩
open Go.RowKit Fp Pu
def bt:Iv:=⟨ay (-1),ay 1,false⟩
theorem gK:bt.Valid:=.inr ⟨rfl,show(ay (-1)).Valid from dD (by decide),show(ay 1).Valid from dD (by decide),by decide +kernel⟩
theorem fe  : ae 313 [] (ai bt):=by
 have h1:(ay (-1)).Valid:=dD (by decide);have h2:(ay 1).Valid:=dD (by decide);exact tr true Tryz.call313 Tryz.func313 (chain [.c (dB _ (by omega):ae 113 [(iP (-1))] _),.c (dB _ (by omega):ae 113 [(iP 1)] _)]<|rR (ai bt) (.of_eq rfl:E.le (ai (Iv.mk (ay (-1)) (ay 1) false)) (ai bt))) (by kernel_rfl)
theorem H8(x y:Iv)(hx:x.Valid)(hy:y.Valid)(xa:(x.all||y.all)=true):ae 158 [(ai x),(ai y)] (ai an):=by
 exact tr true Tryz.call158 Tryz.func158 (chain [.o 7 (.e (ln _ _):PV.le (.e (.sl true 2 7 fun i_ j_=>(aE x++aE y).getD (i_*7+j_) (.v (.bool false)))) (.e (ak [x,y]))),.c (lk _ _ ‹_› ‹_›:ae 86 [(ak [x,y])] _),
  tB 8 (by rw[xa];rfl:(!(x.all||y.all))=false),.c du] <| .nil) (by kernel_rfl)
theorem H9{x y:Iv}(hx:x.Valid)(hy:y.Valid):∃ Z,Z.Valid/\ae 158 [ai x,ai y] (ai Z):=by
 cases h:(x.all||y.all)with
 | true=>exact⟨an,cz,H8 x y hx hy h⟩
 | false =>
  obtain⟨h1,h2⟩:=Bool.or_eq_false_iff.1 h;exact⟨eV x y,CJ hx hy,AE x y hx hy h1 h2⟩
theorem Ij(x:Iv)(hx:x.Valid)(xa:x.all=true):ae 314 [(ai x),(ai bt)] (.aq [ai bt,bP true]):=by
 have hu:=gK;exact tr true Tryz.call314 Tryz.func314 (chain [.c (dc x ‹_›),.c (dc bt ‹_›),tB 19 (xa:x.all=true)] <| .nil) (by kernel_rfl)
theorem Il(x:Iv)(hx:x.Valid)(xa:x.all=false)(h:0<aC (maxD x.lo bt.lo) (minD x.hi bt.hi)):ae 314 [(ai x),(ai bt)] (.aq [ai kg,bP false]):=by
 have hu:=gK;obtain⟨v1,v2⟩:=hx.ends;obtain⟨v3,v4⟩:=hu.ends;have m1:=iI v1 v3;have m2:=jU v2 v4;exact tr true Tryz.call314 Tryz.func314 (chain [.c (dc x ‹_›),.c (dc bt ‹_›),tB 19 (xa:x.all=false),tB 23 (rfl:bt.all=false),.c (tk x.lo bt.lo ‹_› ‹_›),
  .c (th x.hi bt.hi ‹_› ‹_›),.c (bZ _ _ ‹_› ‹_›:ae 37 [(ag (maxD x.lo bt.lo)),(ag (minD x.hi bt.hi))] _),tB 41 (decide_eq_true h)]<|rR (.aq [ai kg,bP false]) (.aq (.cons GN (.cons (.refl _) .nil)):E.le (.aq [(.agg [(bP false),(.v (.slice none 0 0)),(iP 0),(bP false),(.v (.slice none 0 0)),(iP 0),(bP false)]),(bP false)]) (.aq [ai kg,bP false]))) (by kernel_rfl)
theorem Im(x:Iv)(hx:x.Valid)(xa:x.all=false)(h:¬0<aC (maxD x.lo bt.lo) (minD x.hi bt.hi)):ae 314 [(ai x),(ai bt)] (.aq [ai (Iv.mk (maxD x.lo bt.lo) (minD x.hi bt.hi) false),bP true]):=by
 have hu:=gK;obtain⟨v1,v2⟩:=hx.ends;obtain⟨v3,v4⟩:=hu.ends;have m1:=iI v1 v3;have m2:=jU v2 v4;exact tr true Tryz.call314 Tryz.func314 (chain [.c (dc x ‹_›),.c (dc bt ‹_›),tB 19 (xa:x.all=false),tB 23 (rfl:bt.all=false),.c (tk x.lo bt.lo ‹_› ‹_›),
  .c (th x.hi bt.hi ‹_› ‹_›),.c (bZ _ _ ‹_› ‹_›:ae 37 [(ag (maxD x.lo bt.lo)),(ag (minD x.hi bt.hi))] _),tB 41 (decide_eq_false h)] <| .nil) (by kernel_rfl)
structure gh(Y:Iv):Prop where
 v:Y.Valid
 f:Y.all=false
 l:aC bt.lo Y.lo<=0
 h:aC Y.hi bt.hi<=0
theorem S3:gh bt:=⟨gK,rfl,by decide +kernel,by decide +kernel⟩
theorem Ik{x:Iv}(hx:x.Valid):(∃ Y,gh Y/\ae 314 [ai x,ai bt] (.aq [ai Y,bP true]))\/ae 314 [ai x,ai bt] (.aq [ai kg,bP false]):=by
 cases xa:x.all with
 | true=>exact .inl ⟨bt,S3,Ij x hx xa⟩
 | false =>
  by_cases h:0<aC (maxD x.lo bt.lo) (minD x.hi bt.hi)
  .exact .inr (Il x hx xa h)
  .have v1:(maxD x.lo bt.lo).Valid:=iI hx.ends.1 gK.ends.1
   have v2:(minD x.hi bt.hi).Valid:=jU hx.ends.2 gK.ends.2;have h1:aC bt.lo (maxD x.lo bt.lo)<=0:=DF _ _;have h2:aC (minD x.hi bt.hi) bt.hi<=0:=DG _ _;have hq:=Im x hx xa h;have h3:aC (maxD x.lo bt.lo) (minD x.hi bt.hi)<=0:=by omega
   generalize maxD x.lo bt.lo=a at *
   generalize minD x.hi bt.hi=b at *
   exact .inl ⟨⟨a,b,false⟩,⟨.inr ⟨rfl,v1,v2,h3⟩,rfl,h1,h2⟩,hq⟩
theorem gh.up{Y:Iv}(h:gh Y):gh ⟨Y.lo,ay 1,false⟩:=by
 have e:=h.v.ends;refine⟨.inr ⟨rfl,e.1,dD (n:=1) (by decide),?_⟩,rfl,h.l,show aC (ay 1) (ay 1)<=0 by decide +kernel⟩;have:=h.v.q;rw[eG];exact Rat.le_trans this ((eG _ _).1 h.h)
theorem gh.dn{Y:Iv}(h:gh Y):gh ⟨ay (-1),Y.hi,false⟩:=by
 have e:=h.v.ends;refine⟨.inr ⟨rfl,dD (n:=-1) (by decide),e.2,?_⟩,rfl,show aC (ay (-1)) (ay (-1))<=0 by decide +kernel,h.h⟩;have:=h.v.q;rw[eG];exact Rat.le_trans ((eG _ _).1 h.l) this
theorem fc(p:Nat)(hp1:8<=p)(hp2:p<=512):ae 312 [(iP p)] (bP true):=by
 exact tr true Tryz.call312 Tryz.func312 (chain [tT 4 (8<=(p:Int)) (by omega),tT 7 ((p:Int)<=512) (by omega)] <| .nil) (by kernel_rfl)
theorem I4(x:Iv)(p:Nat)(hx:x.Valid)(xa:x.all=true)(hp1:8<=p)(hp2:p<=512):ae 284 [(ai x),(bP true),(iP p)] (ai an):=by
 exact tr true Tryz.call284 Tryz.func284 (chain [.c (fc _ (by omega) (by omega):ae 312 [(iP p)] _),.c (dc x ‹_›),tB 22 (xa:x.all=true),.c du] <| .nil) (by kernel_rfl)
theorem Je(x:Iv)(p:Nat)(hx:x.Valid)(xa:x.all=false)(hp1:8<=p)(hp2:p<=512)(h1:100<x.lo.top):ae 284 [(ai x),(bP true),(iP p)] (ai bt):=by
 obtain⟨w1,w2⟩:=hx.ends;have h7:(ay 7).Valid:=dD (by decide);have wv:(bK x 64).Valid:=dX _ (by decide) (by decide) _;exact tr true Tryz.call284 Tryz.func284 (chain [.c (fc _ (by omega) (by omega):ae 312 [(iP p)] _),.c (dc x ‹_›),tB 22 (xa:x.all=false),.c (bS _ ‹_›:ae 130 [(ag x.lo)] _),tB 28 (decide_eq_true h1),
  .c (fe:ae 313 [] _)] <| .nil) (by kernel_rfl)
theorem Jg(x:Iv)(p:Nat)(hx:x.Valid)(xa:x.all=false)(hp1:8<=p)(hp2:p<=512)(h1:¬100<x.lo.top)(h2:100<x.hi.top):ae 284 [(ai x),(bP true),(iP p)] (ai bt):=by
 obtain⟨w1,w2⟩:=hx.ends;have h7:(ay 7).Valid:=dD (by decide);have wv:(bK x 64).Valid:=dX _ (by decide) (by decide) _;exact tr true Tryz.call284 Tryz.func284 (chain [.c (fc _ (by omega) (by omega):ae 312 [(iP p)] _),.c (dc x ‹_›),tB 22 (xa:x.all=false),.c (bS _ ‹_›:ae 130 [(ag x.lo)] _),tB 28 (decide_eq_false h1),
  .c (bS _ ‹_›:ae 130 [(ag x.hi)] _),tB 33 (decide_eq_true h2),.c (fe:ae 313 [] _)] <| .nil) (by kernel_rfl)
theorem Ji(x:Iv)(p:Nat)(hx:x.Valid)(xa:x.all=false)(hp1:8<=p)(hp2:p<=512)(h1:¬100<x.lo.top)(h2:¬100<x.hi.top)(h3:¬eP x 64=0):ae 284 [(ai x),(bP true),(iP p)] (ai bt):=by
 obtain⟨w1,w2⟩:=hx.ends;have h7:(ay 7).Valid:=dD (by decide);have wv:(bK x 64).Valid:=dX _ (by decide) (by decide) _;exact tr true Tryz.call284 Tryz.func284 (chain [.c (fc _ (by omega) (by omega):ae 312 [(iP p)] _),.c (dc x ‹_›),tB 22 (xa:x.all=false),.c (bS _ ‹_›:ae 130 [(ag x.lo)] _),tB 28 (decide_eq_false h1),
  .c (bS _ ‹_›:ae 130 [(ag x.hi)] _),tB 33 (decide_eq_false h2),.c (fm x 64 ‹_› ‹_› (by omega) (by omega)),tB 40 (decide_eq_false h3),.c (fe:ae 313 [] _)] <| .nil) (by kernel_rfl)
theorem Jk(x:Iv)(p:Nat)(hx:x.Valid)(xa:x.all=false)(hp1:8<=p)(hp2:p<=512)(h1:¬100<x.lo.top)(h2:¬100<x.hi.top)(h3:eP x 64=0)(h4:0<=aC (bK x 64) (ay 7)):ae 284 [(ai x),(bP true),(iP p)] (ai bt):=by
 obtain⟨w1,w2⟩:=hx.ends;have h7:(ay 7).Valid:=dD (by decide);have wv:(bK x 64).Valid:=dX _ (by decide) (by decide) _;exact tr true Tryz.call284 Tryz.func284 (chain [.c (fc _ (by omega) (by omega):ae 312 [(iP p)] _),.c (dc x ‹_›),tB 22 (xa:x.all=false),.c (bS _ ‹_›:ae 130 [(ag x.lo)] _),tB 28 (decide_eq_false h1),
  .c (bS _ ‹_›:ae 130 [(ag x.hi)] _),tB 33 (decide_eq_false h2),.c (fm x 64 ‹_› ‹_› (by omega) (by omega)),tB 40 (decide_eq_true h3),.c (dB _ (by omega):ae 113 [(iP 7)] _),
  .c (bZ _ _ ‹_› ‹_›:ae 37 [(ag (bK x 64)),(ag (ay 7))] _),tB 47 (decide_eq_true h4),.c (fe:ae 313 [] _)] <| .nil) (by kernel_rfl)
theorem I8(x:Iv)(p:Nat)(hx:x.Valid)(xa:x.all=false)(hp1:8<=p)(hp2:p<=512)(h1:¬100<x.lo.top)(h2:¬100<x.hi.top)(h3:eP x 64=0)(h4:¬0<=aC (bK x 64) (ay 7))(P1 P2 H:Iv)(hP1:ae 315 [ag x.lo,bP true,iP (p:Int)] (ai P1))(hP2:ae 315 [ag x.hi,bP true,iP (p:Int)] (ai P2))(hH:ae 158 [ai P1,ai P2] (ai H))(hMt:ae 314 [ai H,ai bt] (.aq [ai kg,bP false])):ae 284 [(ai x),(bP true),(iP p)] (ai bt):=by
 obtain⟨w1,w2⟩:=hx.ends;have h7:(ay 7).Valid:=dD (by decide);have wv:(bK x 64).Valid:=dX _ (by decide) (by decide) _;exact tr true Tryz.call284 Tryz.func284 (chain [.c (fc _ (by omega) (by omega):ae 312 [(iP p)] _),.c (dc x ‹_›),tB 22 (xa:x.all=false),.c (bS _ ‹_›:ae 130 [(ag x.lo)] _),tB 28 (decide_eq_false h1),
  .c (bS _ ‹_›:ae 130 [(ag x.hi)] _),tB 33 (decide_eq_false h2),.c (fm x 64 ‹_› ‹_› (by omega) (by omega)),tB 40 (decide_eq_true h3),.c (dB _ (by omega):ae 113 [(iP 7)] _),
  .c (bZ _ _ ‹_› ‹_›:ae 37 [(ag (bK x 64)),(ag (ay 7))] _),tB 47 (decide_eq_false h4),.c (hP1:ae 315 [(ag x.lo),(bP true),(iP p)] _),
  .c (hP2:ae 315 [(ag x.hi),(bP true),(iP p)] _),.c (hH:ae 158 [(ai P1),(ai P2)] _),.c (fe:ae 313 [] _),.c (hMt:ae 314 [(ai H),(ai bt)] _),.c (fe:ae 313 [] _)] <| .nil) (by kernel_rfl)
theorem I6(x:Iv)(p:Nat)(hx:x.Valid)(xa:x.all=false)(hp1:8<=p)(hp2:p<=512)(h1:¬100<x.lo.top)(h2:¬100<x.hi.top)(h3:eP x 64=0)(h4:¬0<=aC (bK x 64) (ay 7))(P1 P2 H Y:Iv)(hY:gh Y)(hP1:ae 315 [ag x.lo,bP true,iP (p:Int)] (ai P1))(hP2:ae 315 [ag x.hi,bP true,iP (p:Int)] (ai P2))(hH:ae 158 [ai P1,ai P2] (ai H))(hMt:ae 314 [ai H,ai bt] (.aq [ai Y,bP true]))(h5:aC x.lo x.hi=0):ae 284 [(ai x),(bP true),(iP p)] (ai Y):=by
 obtain⟨w1,w2⟩:=hx.ends;have h7:(ay 7).Valid:=dD (by decide);have wv:(bK x 64).Valid:=dX _ (by decide) (by decide) _;exact tr true Tryz.call284 Tryz.func284 (chain [.c (fc _ (by omega) (by omega):ae 312 [(iP p)] _),.c (dc x ‹_›),tB 22 (xa:x.all=false),.c (bS _ ‹_›:ae 130 [(ag x.lo)] _),tB 28 (decide_eq_false h1),
  .c (bS _ ‹_›:ae 130 [(ag x.hi)] _),tB 33 (decide_eq_false h2),.c (fm x 64 ‹_› ‹_› (by omega) (by omega)),tB 40 (decide_eq_true h3),.c (dB _ (by omega):ae 113 [(iP 7)] _),
  .c (bZ _ _ ‹_› ‹_›:ae 37 [(ag (bK x 64)),(ag (ay 7))] _),tB 47 (decide_eq_false h4),.c (hP1:ae 315 [(ag x.lo),(bP true),(iP p)] _),
  .c (hP2:ae 315 [(ag x.hi),(bP true),(iP p)] _),.c (hH:ae 158 [(ai P1),(ai P2)] _),.c (fe:ae 313 [] _),.c (hMt:ae 314 [(ai H),(ai bt)] _),
  .c (bZ _ _ ‹_› ‹_›:ae 37 [(ag x.lo),(ag x.hi)] _),tB 74 (by rw[h5];rfl:((aC x.lo x.hi)==0)=true)] <| .nil) (by kernel_rfl)
theorem Jo(x:Iv)(p:Nat)(hx:x.Valid)(xa:x.all=false)(hp1:8<=p)(hp2:p<=512)(h1:¬100<x.lo.top)(h2:¬100<x.hi.top)(h3:eP x 64=0)(h4:¬0<=aC (bK x 64) (ay 7))(P1 P2 H Y:Iv)(hY:gh Y)(hP1:ae 315 [ag x.lo,bP true,iP (p:Int)] (ai P1))(hP2:ae 315 [ag x.hi,bP true,iP (p:Int)] (ai P2))(hH:ae 158 [ai P1,ai P2] (ai H))(hMt:ae 314 [ai H,ai bt] (.aq [ai Y,bP true]))(h5:¬aC x.lo x.hi=0)(hM1:ae 316 [ai x,iP ((0:Nat):Int),iP ((p+64:Nat):Int)] (bP true))(hM2:ae 316 [ai x,iP ((2:Nat):Int),iP ((p+64:Nat):Int)] (bP true)):ae 284 [(ai x),(bP true),(iP p)] (ai (Iv.mk (ay (-1)) (ay 1) Y.all)):=by
 obtain⟨w1,w2⟩:=hx.ends;have h7:(ay 7).Valid:=dD (by decide);have wv:(bK x 64).Valid:=dX _ (by decide) (by decide) _;exact tr true Tryz.call284 Tryz.func284 (chain [.c (fc _ (by omega) (by omega):ae 312 [(iP p)] _),.c (dc x ‹_›),tB 22 (xa:x.all=false),.c (bS _ ‹_›:ae 130 [(ag x.lo)] _),tB 28 (decide_eq_false h1),
  .c (bS _ ‹_›:ae 130 [(ag x.hi)] _),tB 33 (decide_eq_false h2),.c (fm x 64 ‹_› ‹_› (by omega) (by omega)),tB 40 (decide_eq_true h3),.c (dB _ (by omega):ae 113 [(iP 7)] _),
  .c (bZ _ _ ‹_› ‹_›:ae 37 [(ag (bK x 64)),(ag (ay 7))] _),tB 47 (decide_eq_false h4),.c (hP1:ae 315 [(ag x.lo),(bP true),(iP p)] _),
  .c (hP2:ae 315 [(ag x.hi),(bP true),(iP p)] _),.c (hH:ae 158 [(ai P1),(ai P2)] _),.c (fe:ae 313 [] _),.c (hMt:ae 314 [(ai H),(ai bt)] _),
  .c (bZ _ _ ‹_› ‹_›:ae 37 [(ag x.lo),(ag x.hi)] _),tB 74 (by simpa using h5:((aC x.lo x.hi)==0)=false),ar ((p:Int)+64) (by omega),
  .c (hM1:ae 316 [(ai x),(iP 0),(iP (((p+64):Nat):Int))] _),.c (dB _ (by omega):ae 113 [(iP 1)] _),ar ((p:Int)+64) (by omega),.c (hM2:ae 316 [(ai x),(iP 2),(iP (((p+64):Nat):Int))] _),
  .c (dB _ (by omega):ae 113 [(iP (-1))] _)]<|rR (ai (Iv.mk (ay (-1)) (ay 1) Y.all)) (.of_eq rfl:E.le (ai (Iv.mk (ay (-1)) (ay 1) Y.all)) (ai (Iv.mk (ay (-1)) (ay 1) Y.all)))) (by kernel_rfl)
theorem Jm(x:Iv)(p:Nat)(hx:x.Valid)(xa:x.all=false)(hp1:8<=p)(hp2:p<=512)(h1:¬100<x.lo.top)(h2:¬100<x.hi.top)(h3:eP x 64=0)(h4:¬0<=aC (bK x 64) (ay 7))(P1 P2 H Y:Iv)(hY:gh Y)(hP1:ae 315 [ag x.lo,bP true,iP (p:Int)] (ai P1))(hP2:ae 315 [ag x.hi,bP true,iP (p:Int)] (ai P2))(hH:ae 158 [ai P1,ai P2] (ai H))(hMt:ae 314 [ai H,ai bt] (.aq [ai Y,bP true]))(h5:¬aC x.lo x.hi=0)(hM1:ae 316 [ai x,iP ((0:Nat):Int),iP ((p+64:Nat):Int)] (bP true))(hM2:ae 316 [ai x,iP ((2:Nat):Int),iP ((p+64:Nat):Int)] (bP false)):ae 284 [(ai x),(bP true),(iP p)] (ai (Iv.mk Y.lo (ay 1) Y.all)):=by
 obtain⟨w1,w2⟩:=hx.ends;have h7:(ay 7).Valid:=dD (by decide);have wv:(bK x 64).Valid:=dX _ (by decide) (by decide) _;exact tr true Tryz.call284 Tryz.func284 (chain [.c (fc _ (by omega) (by omega):ae 312 [(iP p)] _),.c (dc x ‹_›),tB 22 (xa:x.all=false),.c (bS _ ‹_›:ae 130 [(ag x.lo)] _),tB 28 (decide_eq_false h1),
  .c (bS _ ‹_›:ae 130 [(ag x.hi)] _),tB 33 (decide_eq_false h2),.c (fm x 64 ‹_› ‹_› (by omega) (by omega)),tB 40 (decide_eq_true h3),.c (dB _ (by omega):ae 113 [(iP 7)] _),
  .c (bZ _ _ ‹_› ‹_›:ae 37 [(ag (bK x 64)),(ag (ay 7))] _),tB 47 (decide_eq_false h4),.c (hP1:ae 315 [(ag x.lo),(bP true),(iP p)] _),
  .c (hP2:ae 315 [(ag x.hi),(bP true),(iP p)] _),.c (hH:ae 158 [(ai P1),(ai P2)] _),.c (fe:ae 313 [] _),.c (hMt:ae 314 [(ai H),(ai bt)] _),
  .c (bZ _ _ ‹_› ‹_›:ae 37 [(ag x.lo),(ag x.hi)] _),tB 74 (by simpa using h5:((aC x.lo x.hi)==0)=false),ar ((p:Int)+64) (by omega),
  .c (hM1:ae 316 [(ai x),(iP 0),(iP (((p+64):Nat):Int))] _),.c (dB _ (by omega):ae 113 [(iP 1)] _),ar ((p:Int)+64) (by omega),.c (hM2:ae 316 [(ai x),(iP 2),(iP (((p+64):Nat):Int))] _)]<|rR (ai (Iv.mk Y.lo (ay 1) Y.all)) (.of_eq rfl:E.le (ai (Iv.mk Y.lo (ay 1) Y.all)) (ai (Iv.mk Y.lo (ay 1) Y.all)))) (by kernel_rfl)
theorem Jc(x:Iv)(p:Nat)(hx:x.Valid)(xa:x.all=false)(hp1:8<=p)(hp2:p<=512)(h1:¬100<x.lo.top)(h2:¬100<x.hi.top)(h3:eP x 64=0)(h4:¬0<=aC (bK x 64) (ay 7))(P1 P2 H Y:Iv)(hY:gh Y)(hP1:ae 315 [ag x.lo,bP true,iP (p:Int)] (ai P1))(hP2:ae 315 [ag x.hi,bP true,iP (p:Int)] (ai P2))(hH:ae 158 [ai P1,ai P2] (ai H))(hMt:ae 314 [ai H,ai bt] (.aq [ai Y,bP true]))(h5:¬aC x.lo x.hi=0)(hM1:ae 316 [ai x,iP ((0:Nat):Int),iP ((p+64:Nat):Int)] (bP false))(hM2:ae 316 [ai x,iP ((2:Nat):Int),iP ((p+64:Nat):Int)] (bP true)):ae 284 [(ai x),(bP true),(iP p)] (ai (Iv.mk (ay (-1)) Y.hi Y.all)):=by
 obtain⟨w1,w2⟩:=hx.ends;have h7:(ay 7).Valid:=dD (by decide);have wv:(bK x 64).Valid:=dX _ (by decide) (by decide) _;exact tr true Tryz.call284 Tryz.func284 (chain [.c (fc _ (by omega) (by omega):ae 312 [(iP p)] _),.c (dc x ‹_›),tB 22 (xa:x.all=false),.c (bS _ ‹_›:ae 130 [(ag x.lo)] _),tB 28 (decide_eq_false h1),
  .c (bS _ ‹_›:ae 130 [(ag x.hi)] _),tB 33 (decide_eq_false h2),.c (fm x 64 ‹_› ‹_› (by omega) (by omega)),tB 40 (decide_eq_true h3),.c (dB _ (by omega):ae 113 [(iP 7)] _),
  .c (bZ _ _ ‹_› ‹_›:ae 37 [(ag (bK x 64)),(ag (ay 7))] _),tB 47 (decide_eq_false h4),.c (hP1:ae 315 [(ag x.lo),(bP true),(iP p)] _),
  .c (hP2:ae 315 [(ag x.hi),(bP true),(iP p)] _),.c (hH:ae 158 [(ai P1),(ai P2)] _),.c (fe:ae 313 [] _),.c (hMt:ae 314 [(ai H),(ai bt)] _),
  .c (bZ _ _ ‹_› ‹_›:ae 37 [(ag x.lo),(ag x.hi)] _),tB 74 (by simpa using h5:((aC x.lo x.hi)==0)=false),ar ((p:Int)+64) (by omega),
  .c (hM1:ae 316 [(ai x),(iP 0),(iP (((p+64):Nat):Int))] _),ar ((p:Int)+64) (by omega),.c (hM2:ae 316 [(ai x),(iP 2),(iP (((p+64):Nat):Int))] _),.c (dB _ (by omega):ae 113 [(iP (-1))] _)]<|rR (ai (Iv.mk (ay (-1)) Y.hi Y.all)) (.of_eq rfl:E.le (ai (Iv.mk (ay (-1)) Y.hi Y.all)) (ai (Iv.mk (ay (-1)) Y.hi Y.all)))) (by kernel_rfl)
theorem I9(x:Iv)(p:Nat)(hx:x.Valid)(xa:x.all=false)(hp1:8<=p)(hp2:p<=512)(h1:¬100<x.lo.top)(h2:¬100<x.hi.top)(h3:eP x 64=0)(h4:¬0<=aC (bK x 64) (ay 7))(P1 P2 H Y:Iv)(hY:gh Y)(hP1:ae 315 [ag x.lo,bP true,iP (p:Int)] (ai P1))(hP2:ae 315 [ag x.hi,bP true,iP (p:Int)] (ai P2))(hH:ae 158 [ai P1,ai P2] (ai H))(hMt:ae 314 [ai H,ai bt] (.aq [ai Y,bP true]))(h5:¬aC x.lo x.hi=0)(hM1:ae 316 [ai x,iP ((0:Nat):Int),iP ((p+64:Nat):Int)] (bP false))(hM2:ae 316 [ai x,iP ((2:Nat):Int),iP ((p+64:Nat):Int)] (bP false)):ae 284 [(ai x),(bP true),(iP p)] (ai (Iv.mk Y.lo Y.hi Y.all)):=by
 obtain⟨w1,w2⟩:=hx.ends;have h7:(ay 7).Valid:=dD (by decide);have wv:(bK x 64).Valid:=dX _ (by decide) (by decide) _;exact tr true Tryz.call284 Tryz.func284 (chain [.c (fc _ (by omega) (by omega):ae 312 [(iP p)] _),.c (dc x ‹_›),tB 22 (xa:x.all=false),.c (bS _ ‹_›:ae 130 [(ag x.lo)] _),tB 28 (decide_eq_false h1),
  .c (bS _ ‹_›:ae 130 [(ag x.hi)] _),tB 33 (decide_eq_false h2),.c (fm x 64 ‹_› ‹_› (by omega) (by omega)),tB 40 (decide_eq_true h3),.c (dB _ (by omega):ae 113 [(iP 7)] _),
  .c (bZ _ _ ‹_› ‹_›:ae 37 [(ag (bK x 64)),(ag (ay 7))] _),tB 47 (decide_eq_false h4),.c (hP1:ae 315 [(ag x.lo),(bP true),(iP p)] _),
  .c (hP2:ae 315 [(ag x.hi),(bP true),(iP p)] _),.c (hH:ae 158 [(ai P1),(ai P2)] _),.c (fe:ae 313 [] _),.c (hMt:ae 314 [(ai H),(ai bt)] _),
  .c (bZ _ _ ‹_› ‹_›:ae 37 [(ag x.lo),(ag x.hi)] _),tB 74 (by simpa using h5:((aC x.lo x.hi)==0)=false),ar ((p:Int)+64) (by omega),
  .c (hM1:ae 316 [(ai x),(iP 0),(iP (((p+64):Nat):Int))] _),ar ((p:Int)+64) (by omega),.c (hM2:ae 316 [(ai x),(iP 2),(iP (((p+64):Nat):Int))] _)]<|rR (ai (Iv.mk Y.lo Y.hi Y.all)) (.of_eq rfl:E.le (ai Y) (ai (Iv.mk Y.lo Y.hi Y.all)))) (by kernel_rfl)
theorem I5(x:Iv)(p:Nat)(hx:x.Valid)(xa:x.all=true)(hp1:8<=p)(hp2:p<=512):ae 284 [(ai x),(bP false),(iP p)] (ai an):=by
 exact tr true Tryz.call284 Tryz.func284 (chain [.c (fc _ (by omega) (by omega):ae 312 [(iP p)] _),.c (dc x ‹_›),tB 22 (xa:x.all=true),.c du] <| .nil) (by kernel_rfl)
theorem Jf(x:Iv)(p:Nat)(hx:x.Valid)(xa:x.all=false)(hp1:8<=p)(hp2:p<=512)(h1:100<x.lo.top):ae 284 [(ai x),(bP false),(iP p)] (ai bt):=by
 obtain⟨w1,w2⟩:=hx.ends;have h7:(ay 7).Valid:=dD (by decide);have wv:(bK x 64).Valid:=dX _ (by decide) (by decide) _;exact tr true Tryz.call284 Tryz.func284 (chain [.c (fc _ (by omega) (by omega):ae 312 [(iP p)] _),.c (dc x ‹_›),tB 22 (xa:x.all=false),.c (bS _ ‹_›:ae 130 [(ag x.lo)] _),tB 28 (decide_eq_true h1),
  .c (fe:ae 313 [] _)] <| .nil) (by kernel_rfl)
theorem Jh(x:Iv)(p:Nat)(hx:x.Valid)(xa:x.all=false)(hp1:8<=p)(hp2:p<=512)(h1:¬100<x.lo.top)(h2:100<x.hi.top):ae 284 [(ai x),(bP false),(iP p)] (ai bt):=by
 obtain⟨w1,w2⟩:=hx.ends;have h7:(ay 7).Valid:=dD (by decide);have wv:(bK x 64).Valid:=dX _ (by decide) (by decide) _;exact tr true Tryz.call284 Tryz.func284 (chain [.c (fc _ (by omega) (by omega):ae 312 [(iP p)] _),.c (dc x ‹_›),tB 22 (xa:x.all=false),.c (bS _ ‹_›:ae 130 [(ag x.lo)] _),tB 28 (decide_eq_false h1),
  .c (bS _ ‹_›:ae 130 [(ag x.hi)] _),tB 33 (decide_eq_true h2),.c (fe:ae 313 [] _)] <| .nil) (by kernel_rfl)
theorem Jj(x:Iv)(p:Nat)(hx:x.Valid)(xa:x.all=false)(hp1:8<=p)(hp2:p<=512)(h1:¬100<x.lo.top)(h2:¬100<x.hi.top)(h3:¬eP x 64=0):ae 284 [(ai x),(bP false),(iP p)] (ai bt):=by
 obtain⟨w1,w2⟩:=hx.ends;have h7:(ay 7).Valid:=dD (by decide);have wv:(bK x 64).Valid:=dX _ (by decide) (by decide) _;exact tr true Tryz.call284 Tryz.func284 (chain [.c (fc _ (by omega) (by omega):ae 312 [(iP p)] _),.c (dc x ‹_›),tB 22 (xa:x.all=false),.c (bS _ ‹_›:ae 130 [(ag x.lo)] _),tB 28 (decide_eq_false h1),
  .c (bS _ ‹_›:ae 130 [(ag x.hi)] _),tB 33 (decide_eq_false h2),.c (fm x 64 ‹_› ‹_› (by omega) (by omega)),tB 40 (decide_eq_false h3),.c (fe:ae 313 [] _)] <| .nil) (by kernel_rfl)
theorem Jl(x:Iv)(p:Nat)(hx:x.Valid)(xa:x.all=false)(hp1:8<=p)(hp2:p<=512)(h1:¬100<x.lo.top)(h2:¬100<x.hi.top)(h3:eP x 64=0)(h4:0<=aC (bK x 64) (ay 7)):ae 284 [(ai x),(bP false),(iP p)] (ai bt):=by
 obtain⟨w1,w2⟩:=hx.ends;have h7:(ay 7).Valid:=dD (by decide);have wv:(bK x 64).Valid:=dX _ (by decide) (by decide) _;exact tr true Tryz.call284 Tryz.func284 (chain [.c (fc _ (by omega) (by omega):ae 312 [(iP p)] _),.c (dc x ‹_›),tB 22 (xa:x.all=false),.c (bS _ ‹_›:ae 130 [(ag x.lo)] _),tB 28 (decide_eq_false h1),
  .c (bS _ ‹_›:ae 130 [(ag x.hi)] _),tB 33 (decide_eq_false h2),.c (fm x 64 ‹_› ‹_› (by omega) (by omega)),tB 40 (decide_eq_true h3),.c (dB _ (by omega):ae 113 [(iP 7)] _),
  .c (bZ _ _ ‹_› ‹_›:ae 37 [(ag (bK x 64)),(ag (ay 7))] _),tB 47 (decide_eq_true h4),.c (fe:ae 313 [] _)] <| .nil) (by kernel_rfl)
theorem Jb(x:Iv)(p:Nat)(hx:x.Valid)(xa:x.all=false)(hp1:8<=p)(hp2:p<=512)(h1:¬100<x.lo.top)(h2:¬100<x.hi.top)(h3:eP x 64=0)(h4:¬0<=aC (bK x 64) (ay 7))(P1 P2 H:Iv)(hP1:ae 315 [ag x.lo,bP false,iP (p:Int)] (ai P1))(hP2:ae 315 [ag x.hi,bP false,iP (p:Int)] (ai P2))(hH:ae 158 [ai P1,ai P2] (ai H))(hMt:ae 314 [ai H,ai bt] (.aq [ai kg,bP false])):ae 284 [(ai x),(bP false),(iP p)] (ai bt):=by
 obtain⟨w1,w2⟩:=hx.ends;have h7:(ay 7).Valid:=dD (by decide);have wv:(bK x 64).Valid:=dX _ (by decide) (by decide) _;exact tr true Tryz.call284 Tryz.func284 (chain [.c (fc _ (by omega) (by omega):ae 312 [(iP p)] _),.c (dc x ‹_›),tB 22 (xa:x.all=false),.c (bS _ ‹_›:ae 130 [(ag x.lo)] _),tB 28 (decide_eq_false h1),
  .c (bS _ ‹_›:ae 130 [(ag x.hi)] _),tB 33 (decide_eq_false h2),.c (fm x 64 ‹_› ‹_› (by omega) (by omega)),tB 40 (decide_eq_true h3),.c (dB _ (by omega):ae 113 [(iP 7)] _),
  .c (bZ _ _ ‹_› ‹_›:ae 37 [(ag (bK x 64)),(ag (ay 7))] _),tB 47 (decide_eq_false h4),.c (hP1:ae 315 [(ag x.lo),(bP false),(iP p)] _),
  .c (hP2:ae 315 [(ag x.hi),(bP false),(iP p)] _),.c (hH:ae 158 [(ai P1),(ai P2)] _),.c (fe:ae 313 [] _),.c (hMt:ae 314 [(ai H),(ai bt)] _),.c (fe:ae 313 [] _)] <| .nil) (by kernel_rfl)
theorem I7(x:Iv)(p:Nat)(hx:x.Valid)(xa:x.all=false)(hp1:8<=p)(hp2:p<=512)(h1:¬100<x.lo.top)(h2:¬100<x.hi.top)(h3:eP x 64=0)(h4:¬0<=aC (bK x 64) (ay 7))(P1 P2 H Y:Iv)(hY:gh Y)(hP1:ae 315 [ag x.lo,bP false,iP (p:Int)] (ai P1))(hP2:ae 315 [ag x.hi,bP false,iP (p:Int)] (ai P2))(hH:ae 158 [ai P1,ai P2] (ai H))(hMt:ae 314 [ai H,ai bt] (.aq [ai Y,bP true]))(h5:aC x.lo x.hi=0):ae 284 [(ai x),(bP false),(iP p)] (ai Y):=by
 obtain⟨w1,w2⟩:=hx.ends;have h7:(ay 7).Valid:=dD (by decide);have wv:(bK x 64).Valid:=dX _ (by decide) (by decide) _;exact tr true Tryz.call284 Tryz.func284 (chain [.c (fc _ (by omega) (by omega):ae 312 [(iP p)] _),.c (dc x ‹_›),tB 22 (xa:x.all=false),.c (bS _ ‹_›:ae 130 [(ag x.lo)] _),tB 28 (decide_eq_false h1),
  .c (bS _ ‹_›:ae 130 [(ag x.hi)] _),tB 33 (decide_eq_false h2),.c (fm x 64 ‹_› ‹_› (by omega) (by omega)),tB 40 (decide_eq_true h3),.c (dB _ (by omega):ae 113 [(iP 7)] _),
  .c (bZ _ _ ‹_› ‹_›:ae 37 [(ag (bK x 64)),(ag (ay 7))] _),tB 47 (decide_eq_false h4),.c (hP1:ae 315 [(ag x.lo),(bP false),(iP p)] _),
  .c (hP2:ae 315 [(ag x.hi),(bP false),(iP p)] _),.c (hH:ae 158 [(ai P1),(ai P2)] _),.c (fe:ae 313 [] _),.c (hMt:ae 314 [(ai H),(ai bt)] _),
  .c (bZ _ _ ‹_› ‹_›:ae 37 [(ag x.lo),(ag x.hi)] _),tB 74 (by rw[h5];rfl:((aC x.lo x.hi)==0)=true)] <| .nil) (by kernel_rfl)
theorem Jp(x:Iv)(p:Nat)(hx:x.Valid)(xa:x.all=false)(hp1:8<=p)(hp2:p<=512)(h1:¬100<x.lo.top)(h2:¬100<x.hi.top)(h3:eP x 64=0)(h4:¬0<=aC (bK x 64) (ay 7))(P1 P2 H Y:Iv)(hY:gh Y)(hP1:ae 315 [ag x.lo,bP false,iP (p:Int)] (ai P1))(hP2:ae 315 [ag x.hi,bP false,iP (p:Int)] (ai P2))(hH:ae 158 [ai P1,ai P2] (ai H))(hMt:ae 314 [ai H,ai bt] (.aq [ai Y,bP true]))(h5:¬aC x.lo x.hi=0)(hM1:ae 316 [ai x,iP ((1:Nat):Int),iP ((p+64:Nat):Int)] (bP true))(hM2:ae 316 [ai x,iP ((3:Nat):Int),iP ((p+64:Nat):Int)] (bP true)):ae 284 [(ai x),(bP false),(iP p)] (ai (Iv.mk (ay (-1)) (ay 1) Y.all)):=by
 obtain⟨w1,w2⟩:=hx.ends;have h7:(ay 7).Valid:=dD (by decide);have wv:(bK x 64).Valid:=dX _ (by decide) (by decide) _;exact tr true Tryz.call284 Tryz.func284 (chain [.c (fc _ (by omega) (by omega):ae 312 [(iP p)] _),.c (dc x ‹_›),tB 22 (xa:x.all=false),.c (bS _ ‹_›:ae 130 [(ag x.lo)] _),tB 28 (decide_eq_false h1),
  .c (bS _ ‹_›:ae 130 [(ag x.hi)] _),tB 33 (decide_eq_false h2),.c (fm x 64 ‹_› ‹_› (by omega) (by omega)),tB 40 (decide_eq_true h3),.c (dB _ (by omega):ae 113 [(iP 7)] _),
  .c (bZ _ _ ‹_› ‹_›:ae 37 [(ag (bK x 64)),(ag (ay 7))] _),tB 47 (decide_eq_false h4),.c (hP1:ae 315 [(ag x.lo),(bP false),(iP p)] _),
  .c (hP2:ae 315 [(ag x.hi),(bP false),(iP p)] _),.c (hH:ae 158 [(ai P1),(ai P2)] _),.c (fe:ae 313 [] _),.c (hMt:ae 314 [(ai H),(ai bt)] _),
  .c (bZ _ _ ‹_› ‹_›:ae 37 [(ag x.lo),(ag x.hi)] _),tB 74 (by simpa using h5:((aC x.lo x.hi)==0)=false),ar ((p:Int)+64) (by omega),
  .c (hM1:ae 316 [(ai x),(iP 1),(iP (((p+64):Nat):Int))] _),.c (dB _ (by omega):ae 113 [(iP 1)] _),ar ((p:Int)+64) (by omega),.c (hM2:ae 316 [(ai x),(iP 3),(iP (((p+64):Nat):Int))] _),
  .c (dB _ (by omega):ae 113 [(iP (-1))] _)]<|rR (ai (Iv.mk (ay (-1)) (ay 1) Y.all)) (.of_eq rfl:E.le (ai (Iv.mk (ay (-1)) (ay 1) Y.all)) (ai (Iv.mk (ay (-1)) (ay 1) Y.all)))) (by kernel_rfl)
theorem Jn(x:Iv)(p:Nat)(hx:x.Valid)(xa:x.all=false)(hp1:8<=p)(hp2:p<=512)(h1:¬100<x.lo.top)(h2:¬100<x.hi.top)(h3:eP x 64=0)(h4:¬0<=aC (bK x 64) (ay 7))(P1 P2 H Y:Iv)(hY:gh Y)(hP1:ae 315 [ag x.lo,bP false,iP (p:Int)] (ai P1))(hP2:ae 315 [ag x.hi,bP false,iP (p:Int)] (ai P2))(hH:ae 158 [ai P1,ai P2] (ai H))(hMt:ae 314 [ai H,ai bt] (.aq [ai Y,bP true]))(h5:¬aC x.lo x.hi=0)(hM1:ae 316 [ai x,iP ((1:Nat):Int),iP ((p+64:Nat):Int)] (bP true))(hM2:ae 316 [ai x,iP ((3:Nat):Int),iP ((p+64:Nat):Int)] (bP false)):ae 284 [(ai x),(bP false),(iP p)] (ai (Iv.mk Y.lo (ay 1) Y.all)):=by
 obtain⟨w1,w2⟩:=hx.ends;have h7:(ay 7).Valid:=dD (by decide);have wv:(bK x 64).Valid:=dX _ (by decide) (by decide) _;exact tr true Tryz.call284 Tryz.func284 (chain [.c (fc _ (by omega) (by omega):ae 312 [(iP p)] _),.c (dc x ‹_›),tB 22 (xa:x.all=false),.c (bS _ ‹_›:ae 130 [(ag x.lo)] _),tB 28 (decide_eq_false h1),
  .c (bS _ ‹_›:ae 130 [(ag x.hi)] _),tB 33 (decide_eq_false h2),.c (fm x 64 ‹_› ‹_› (by omega) (by omega)),tB 40 (decide_eq_true h3),.c (dB _ (by omega):ae 113 [(iP 7)] _),
  .c (bZ _ _ ‹_› ‹_›:ae 37 [(ag (bK x 64)),(ag (ay 7))] _),tB 47 (decide_eq_false h4),.c (hP1:ae 315 [(ag x.lo),(bP false),(iP p)] _),
  .c (hP2:ae 315 [(ag x.hi),(bP false),(iP p)] _),.c (hH:ae 158 [(ai P1),(ai P2)] _),.c (fe:ae 313 [] _),.c (hMt:ae 314 [(ai H),(ai bt)] _),
  .c (bZ _ _ ‹_› ‹_›:ae 37 [(ag x.lo),(ag x.hi)] _),tB 74 (by simpa using h5:((aC x.lo x.hi)==0)=false),ar ((p:Int)+64) (by omega),
  .c (hM1:ae 316 [(ai x),(iP 1),(iP (((p+64):Nat):Int))] _),.c (dB _ (by omega):ae 113 [(iP 1)] _),ar ((p:Int)+64) (by omega),.c (hM2:ae 316 [(ai x),(iP 3),(iP (((p+64):Nat):Int))] _)]<|rR (ai (Iv.mk Y.lo (ay 1) Y.all)) (.of_eq rfl:E.le (ai (Iv.mk Y.lo (ay 1) Y.all)) (ai (Iv.mk Y.lo (ay 1) Y.all)))) (by kernel_rfl)
theorem Jd(x:Iv)(p:Nat)(hx:x.Valid)(xa:x.all=false)(hp1:8<=p)(hp2:p<=512)(h1:¬100<x.lo.top)(h2:¬100<x.hi.top)(h3:eP x 64=0)(h4:¬0<=aC (bK x 64) (ay 7))(P1 P2 H Y:Iv)(hY:gh Y)(hP1:ae 315 [ag x.lo,bP false,iP (p:Int)] (ai P1))(hP2:ae 315 [ag x.hi,bP false,iP (p:Int)] (ai P2))(hH:ae 158 [ai P1,ai P2] (ai H))(hMt:ae 314 [ai H,ai bt] (.aq [ai Y,bP true]))(h5:¬aC x.lo x.hi=0)(hM1:ae 316 [ai x,iP ((1:Nat):Int),iP ((p+64:Nat):Int)] (bP false))(hM2:ae 316 [ai x,iP ((3:Nat):Int),iP ((p+64:Nat):Int)] (bP true)):ae 284 [(ai x),(bP false),(iP p)] (ai (Iv.mk (ay (-1)) Y.hi Y.all)):=by
 obtain⟨w1,w2⟩:=hx.ends;have h7:(ay 7).Valid:=dD (by decide);have wv:(bK x 64).Valid:=dX _ (by decide) (by decide) _;exact tr true Tryz.call284 Tryz.func284 (chain [.c (fc _ (by omega) (by omega):ae 312 [(iP p)] _),.c (dc x ‹_›),tB 22 (xa:x.all=false),.c (bS _ ‹_›:ae 130 [(ag x.lo)] _),tB 28 (decide_eq_false h1),
  .c (bS _ ‹_›:ae 130 [(ag x.hi)] _),tB 33 (decide_eq_false h2),.c (fm x 64 ‹_› ‹_› (by omega) (by omega)),tB 40 (decide_eq_true h3),.c (dB _ (by omega):ae 113 [(iP 7)] _),
  .c (bZ _ _ ‹_› ‹_›:ae 37 [(ag (bK x 64)),(ag (ay 7))] _),tB 47 (decide_eq_false h4),.c (hP1:ae 315 [(ag x.lo),(bP false),(iP p)] _),
  .c (hP2:ae 315 [(ag x.hi),(bP false),(iP p)] _),.c (hH:ae 158 [(ai P1),(ai P2)] _),.c (fe:ae 313 [] _),.c (hMt:ae 314 [(ai H),(ai bt)] _),
  .c (bZ _ _ ‹_› ‹_›:ae 37 [(ag x.lo),(ag x.hi)] _),tB 74 (by simpa using h5:((aC x.lo x.hi)==0)=false),ar ((p:Int)+64) (by omega),
  .c (hM1:ae 316 [(ai x),(iP 1),(iP (((p+64):Nat):Int))] _),ar ((p:Int)+64) (by omega),.c (hM2:ae 316 [(ai x),(iP 3),(iP (((p+64):Nat):Int))] _),.c (dB _ (by omega):ae 113 [(iP (-1))] _)]<|rR (ai (Iv.mk (ay (-1)) Y.hi Y.all)) (.of_eq rfl:E.le (ai (Iv.mk (ay (-1)) Y.hi Y.all)) (ai (Iv.mk (ay (-1)) Y.hi Y.all)))) (by kernel_rfl)
theorem Ja(x:Iv)(p:Nat)(hx:x.Valid)(xa:x.all=false)(hp1:8<=p)(hp2:p<=512)(h1:¬100<x.lo.top)(h2:¬100<x.hi.top)(h3:eP x 64=0)(h4:¬0<=aC (bK x 64) (ay 7))(P1 P2 H Y:Iv)(hY:gh Y)(hP1:ae 315 [ag x.lo,bP false,iP (p:Int)] (ai P1))(hP2:ae 315 [ag x.hi,bP false,iP (p:Int)] (ai P2))(hH:ae 158 [ai P1,ai P2] (ai H))(hMt:ae 314 [ai H,ai bt] (.aq [ai Y,bP true]))(h5:¬aC x.lo x.hi=0)(hM1:ae 316 [ai x,iP ((1:Nat):Int),iP ((p+64:Nat):Int)] (bP false))(hM2:ae 316 [ai x,iP ((3:Nat):Int),iP ((p+64:Nat):Int)] (bP false)):ae 284 [(ai x),(bP false),(iP p)] (ai (Iv.mk Y.lo Y.hi Y.all)):=by
 obtain⟨w1,w2⟩:=hx.ends;have h7:(ay 7).Valid:=dD (by decide);have wv:(bK x 64).Valid:=dX _ (by decide) (by decide) _;exact tr true Tryz.call284 Tryz.func284 (chain [.c (fc _ (by omega) (by omega):ae 312 [(iP p)] _),.c (dc x ‹_›),tB 22 (xa:x.all=false),.c (bS _ ‹_›:ae 130 [(ag x.lo)] _),tB 28 (decide_eq_false h1),
  .c (bS _ ‹_›:ae 130 [(ag x.hi)] _),tB 33 (decide_eq_false h2),.c (fm x 64 ‹_› ‹_› (by omega) (by omega)),tB 40 (decide_eq_true h3),.c (dB _ (by omega):ae 113 [(iP 7)] _),
  .c (bZ _ _ ‹_› ‹_›:ae 37 [(ag (bK x 64)),(ag (ay 7))] _),tB 47 (decide_eq_false h4),.c (hP1:ae 315 [(ag x.lo),(bP false),(iP p)] _),
  .c (hP2:ae 315 [(ag x.hi),(bP false),(iP p)] _),.c (hH:ae 158 [(ai P1),(ai P2)] _),.c (fe:ae 313 [] _),.c (hMt:ae 314 [(ai H),(ai bt)] _),
  .c (bZ _ _ ‹_› ‹_›:ae 37 [(ag x.lo),(ag x.hi)] _),tB 74 (by simpa using h5:((aC x.lo x.hi)==0)=false),ar ((p:Int)+64) (by omega),
  .c (hM1:ae 316 [(ai x),(iP 1),(iP (((p+64):Nat):Int))] _),ar ((p:Int)+64) (by omega),.c (hM2:ae 316 [(ai x),(iP 3),(iP (((p+64):Nat):Int))] _)]<|rR (ai (Iv.mk Y.lo Y.hi Y.all)) (.of_eq rfl:E.le (ai Y) (ai (Iv.mk Y.lo Y.hi Y.all)))) (by kernel_rfl)
theorem A5{x:Iv}(hx:x.Valid)(cs:Bool){p:Nat}(hp1:8<=p)(hp2:p<=512):∃ Z,Z.Valid/\ae 284 [ai x,bP cs,iP (p:Int)] (ai Z):=by
 cases xa:x.all with
 | true=>cases cs with
  | true=>exact⟨_,cz,I4 x p hx xa hp1 hp2⟩
  | false=>exact⟨_,cz,I5 x p hx xa hp1 hp2⟩
 | false =>
  by_cases h1:100<x.lo.top
  .cases cs with
   | true=>exact⟨_,gK,Je x p hx xa hp1 hp2 h1⟩
   | false=>exact⟨_,gK,Jf x p hx xa hp1 hp2 h1⟩
  by_cases h2:100<x.hi.top
  .cases cs with
   | true=>exact⟨_,gK,Jg x p hx xa hp1 hp2 h1 h2⟩
   | false=>exact⟨_,gK,Jh x p hx xa hp1 hp2 h1 h2⟩
  by_cases h3:eP x 64=0
  rotate_left
  .cases cs with
   | true=>exact⟨_,gK,Ji x p hx xa hp1 hp2 h1 h2 h3⟩
   | false=>exact⟨_,gK,Jj x p hx xa hp1 hp2 h1 h2 h3⟩
  by_cases h4:0<=aC (bK x 64) (ay 7)
  .cases cs with
   | true=>exact⟨_,gK,Jk x p hx xa hp1 hp2 h1 h2 h3 h4⟩
   | false=>exact⟨_,gK,Jl x p hx xa hp1 hp2 h1 h2 h3 h4⟩
  obtain⟨w1,w2⟩:=hx.ends;obtain⟨P1,g1,hP1⟩:=A8 w1 (by omega) cs hp1 hp2;obtain⟨P2,g2,hP2⟩:=A8 w2 (by omega) cs hp1 hp2;obtain⟨H,g3,hH⟩:=H9 g1 g2;rcases Ik g3 with⟨Y,hY,hMt⟩|hMt
  rotate_left
  .cases cs with
   | true=>exact⟨_,gK,I8 x p hx xa hp1 hp2 h1 h2 h3 h4 P1 P2 H hP1 hP2 hH hMt⟩
   | false=>exact⟨_,gK,Jb x p hx xa hp1 hp2 h1 h2 h3 h4 P1 P2 H hP1 hP2 hH hMt⟩
  by_cases h5:aC x.lo x.hi=0
  .cases cs with
   | true=>exact⟨_,hY.v,I6 x p hx xa hp1 hp2 h1 h2 h3 h4 P1 P2 H Y hY hP1 hP2 hH hMt h5⟩
   | false=>exact⟨_,hY.v,I7 x p hx xa hp1 hp2 h1 h2 h3 h4 P1 P2 H Y hY hP1 hP2 hH hMt h5⟩
  have ya:=hY.f;have v1:(Iv.mk (ay (-1)) (ay 1) Y.all).Valid:=by rw[ya];exact gK
  have v2:(Iv.mk Y.lo (ay 1) Y.all).Valid:=by rw[ya];exact hY.up.v
  have v3:(Iv.mk (ay (-1)) Y.hi Y.all).Valid:=by rw[ya];exact hY.dn.v
  have v4:(Iv.mk Y.lo Y.hi Y.all).Valid:=hY.v;cases cs with
  | true =>
   obtain⟨r1,m1⟩:=sB hx xa 0 (by decide) (p+64) (by omega) (by omega) (by omega);obtain⟨r2,m2⟩:=sB hx xa 2 (by decide) (p+64) (by omega) (by omega) (by omega);cases r1<;>cases r2
   .exact ⟨_,v4,I9 x p hx xa hp1 hp2 h1 h2 h3 h4 P1 P2 H Y hY hP1 hP2 hH hMt h5 m1 m2⟩
   .exact ⟨_,v3,Jc x p hx xa hp1 hp2 h1 h2 h3 h4 P1 P2 H Y hY hP1 hP2 hH hMt h5 m1 m2⟩
   .exact ⟨_,v2,Jm x p hx xa hp1 hp2 h1 h2 h3 h4 P1 P2 H Y hY hP1 hP2 hH hMt h5 m1 m2⟩
   .exact ⟨_,v1,Jo x p hx xa hp1 hp2 h1 h2 h3 h4 P1 P2 H Y hY hP1 hP2 hH hMt h5 m1 m2⟩
  | false =>
   obtain⟨r1,m1⟩:=sB hx xa 1 (by decide) (p+64) (by omega) (by omega) (by omega);obtain⟨r2,m2⟩:=sB hx xa 3 (by decide) (p+64) (by omega) (by omega) (by omega);cases r1<;>cases r2
   .exact ⟨_,v4,Ja x p hx xa hp1 hp2 h1 h2 h3 h4 P1 P2 H Y hY hP1 hP2 hH hMt h5 m1 m2⟩
   .exact ⟨_,v3,Jd x p hx xa hp1 hp2 h1 h2 h3 h4 P1 P2 H Y hY hP1 hP2 hH hMt h5 m1 m2⟩
   .exact ⟨_,v2,Jn x p hx xa hp1 hp2 h1 h2 h3 h4 P1 P2 H Y hY hP1 hP2 hH hMt h5 m1 m2⟩
   .exact ⟨_,v1,Jp x p hx xa hp1 hp2 h1 h2 h3 h4 P1 P2 H Y hY hP1 hP2 hH hMt h5 m1 m2⟩
theorem JU(x Z:Iv)(p:Nat)(hZ:ae 284 [ai x,bP false,iP (p:Int)] (ai Z)):ae 244 [(ai x),(iP p)] (ai Z):=by
 exact tr true Tryz.call244 Tryz.func244 (chain [.c (hZ:ae 284 [(ai x),(bP false),(iP p)] _)] <| .nil) (by kernel_rfl)
theorem vy{x:Iv}(hx:x.Valid){p:Nat}(hp1:8<=p)(hp2:p<=512):∃ Z,Z.Valid/\ae 244 [ai x,iP (p:Int)] (ai Z):=by
 obtain⟨Z,h1,h2⟩:=A5 hx false hp1 hp2;exact⟨Z,h1,JU x Z p h2⟩
theorem Jq(x Z:Iv)(p:Nat)(hZ:ae 284 [ai x,bP true,iP (p:Int)] (ai Z)):ae 245 [(ai x),(iP p)] (ai Z):=by
 exact tr true Tryz.call245 Tryz.func245 (chain [.c (hZ:ae 284 [(ai x),(bP true),(iP p)] _)] <| .nil) (by kernel_rfl)
theorem vu{x:Iv}(hx:x.Valid){p:Nat}(hp1:8<=p)(hp2:p<=512):∃ Z,Z.Valid/\ae 245 [ai x,iP (p:Int)] (ai Z):=by
 obtain⟨Z,h1,h2⟩:=A5 hx true hp1 hp2;exact⟨Z,h1,Jq x Z p h2⟩
open Go.RowKit Fp Pu
def cv(a b:Nat):Nat->Nat×Nat
 | 0=>(a,b)
 | k+1=>((cv a b k).2,(cv a b k).1%(cv a b k).2)
theorem we(a b:Nat):∀ k,cv a b (k+1)=cv b (a%b) k
 | 0=>rfl
 | k+1=>by
  show((cv a b (k+1)).2,(cv a b (k+1)).1%(cv a b (k+1)).2)=_;rw[we a b k];rfl
theorem wb(a b:Nat):∀ k,Nat.gcd (cv a b k).1 (cv a b k).2=Nat.gcd a b
 | 0=>rfl
 | k+1=>by
  show Nat.gcd (cv a b k).2 ((cv a b k).1%(cv a b k).2)=_;rw[<-wb a b k];exact(Nat.gcd_comm _ _).trans ((Nat.gcd_rec _ _).symm.trans (Nat.gcd_comm _ _))
theorem Cb:∀ (b a:Nat),∃ N,(∀ k,k<N->(cv a b k).2≠0)/\(cv a b N).2=0:=by
 intro b
 induction b using Nat.strongRecOn with
 | ind b ih =>
  intro a;by_cases h:b=0
  .exact ⟨0,fun k hk=>absurd hk (Nat.not_lt_zero k),h⟩
  .obtain ⟨N,h1,h2⟩:=ih (a%b) (Nat.mod_lt a (Nat.pos_of_ne_zero h)) b
   refine⟨N+1,fun k hk=>?_,by rw[we];exact h2⟩;rcases k with _|k
   .exact h
   .rw [we];exact h1 k (by omega)
def gI(n d:Int)(p:Nat):Iv:=if dp n d then ck (eu (ay n) (ay d) p false) (fp (ay n) (ay d) p false) (eu (ay n) (ay d) p true) (fp (ay n) (ay d) p true)else an
theorem CN{d:Int}(h:d≠0):(ay d).m≠0:=by
 intro q;have hq:=mL d;rw[eN,q]at hq;have e:(d:Rat)=0:=by
  rw[<-hq];split<;>simp
 rw[show(0:Rat)=((0:Int):Rat)from rfl,Rat.intCast_inj]at e;exact h e
theorem BN{a b:Dy}(b0:b.m≠0){p:Nat}(hp:1<=p)(hp2:p<=4096)(up:Bool):(eu a b p up).Valid:=by
 unfold eu;split
 .exact fP
 .exact ib _ _ _ _ _ _ hp hp2
theorem Rv(n d:Int){p:Nat}(hp:1<=p)(hp2:p<=4096):(gI n d p).Valid:=by
 unfold gI;split
 .rename_i h
  obtain⟨r1,_⟩:=yd h;have d0:(ay d).m≠0:=CN (by omega);unfold ck;split
  .exact cz
  .rename_i he
   obtain⟨A,B⟩:=BJ (a:=ay n) d0 hp hp2;refine .inr ⟨rfl,BN d0 hp hp2 _,BN d0 hp hp2 _,?_⟩;rw[eG];exact Rat.le_trans (A.1 (by omega)).2 (B.1 (by omega)).2
 .exact cz
end Go.Proofs.YtdgnpeddgdclhaaGreatDoor
