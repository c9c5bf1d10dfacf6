/- Texts: Di Bb Dp Mw No Nn Mk Mc Qm Qt Yp Bo Md Mf Mg Mh Mi Mj Mr Za Zd Ze Zg Zh Zi Bn Bp Zj Zl Bq Zf Zk Br Bt Bs Bv Bu Bw Bx By Xa. -/
import Derived.Test.YtdgnpeddgdclhaaGreatDoorM03
set_option linter.unusedSimpArgs false
set_option linter.unusedVariables false
set_option maxHeartbeats 4000000
namespace Go.Proofs.YtdgnpeddgdclhaaGreatDoor
open Go.RowKit Fp Pu
theorem KM(s:Bool)(L:List Nat)(e:Int)(hk:ay L)(hl:L.length<=256)(he1:-1000000<=e)(he2:e<=1000000):ae 79 [bP s,ah L,iP e] (ag (canon s (val L) e)):=by
 refine⟨Tryz.call79,fun w B vs hK hB hr=>?_⟩;obtain⟨v1,vs,rfl,h1,hr⟩:=hr.cK;obtain⟨v2,vs,rfl,h2,hr⟩:=hr.cK;obtain⟨v3,vs,rfl,h3,hr⟩:=hr.cK;obtain rfl:=hr.fB;obtain rfl:=ax.bQ h1;obtain rfl:=ax.bQ h3;obtain⟨A,c,rfl,s1⟩:=jZ hk h2;exact(sN s A c L e w s1 (by omega) (by have:=eD L;unfold cN at this;omega) he1 he2 hK).mono fun e w' h=>rd B w e w' hB h
theorem S3(x y:Nat):E.le (.sl false 2 1 fun i j=>[E.v (.int .u32 ((x:Nat):Int)),.v (.int .u32 ((y:Nat):Int))].getD (i*1+j) (.v (.bool false))) (ah [x,y]):=.sl fun i j hi hj=>by
 obtain rfl:j=0:=by omega
 obtain rfl|rfl:i=0\/i=1:=by omega
 .exact ⟨.refl _,rfl⟩
 .exact ⟨.refl _,rfl⟩
theorem mA(n:Nat):az ((n:Nat):Int)=canon false n 0:=by
 unfold az bS;rw[decide_eq_false (by omega),Int.natAbs_natCast]
theorem wU(n:Nat)(h:n<4294967296):(az ((n:Nat):Int)).Valid:=by
 rw[mA];refine⟨gY _ _ _,?_⟩;by_cases h0:n=0
 .subst h0;exact .inl rfl
 .have:=ni (s:=false) (e:=0) h0
  have hb:ak n<=32:=cv.2 h;refine .inr ⟨by omega,by omega,?_,by omega⟩;obtain⟨h1,h2,h3,h4⟩:=this;have:=dX h3;omega
theorem val_two(x y:Nat):val [x,y]=x+4294967296*y:=by simp[val]
open Go.RowKit Fp Pu
def AJ(d:Dy)(n p:Nat)(x:Nat):PS:=⟨41,true,[(14,.e (iP (((x+1):Nat):Int))),(13,.e (iP ((aI d p false x).2))),(12,.box 12 0),(10,.box 10 0),(5,.box 5 0),(1,.e (iP n)),(2,.e (iP p)),(4,.e (.fn 92 []))],[(12,.cells 31 (aQ ((aI d p false x).1))),(10,.cells 31 [(bP false),(.v (.slice none 0 0)),(iP 0)]),(5,.cells 31 (aQ d))]⟩
def AK(d:Dy)(n N p:Nat)(x:Nat):PS:=⟨41,true,[(14,.e (iP (((x+1):Nat):Int))),(13,.e (iP ((aI d p false x).2))),(12,.box 12 0),(10,.box 10 0),(5,.box 5 0),(1,.e (iP n)),(2,.e (iP p)),(4,.e (.fn 92 []))],[(12,.cells 31 (aQ ((aI d p false x).1))),(10,.cells 31 [(bP false),(.v (.slice none 0 0)),(iP 0)]),(5,.cells 31 (aQ d))]⟩
def AL(d:Dy)(n p:Nat)(x:Nat):PS:=⟨41,true,[(14,.e (iP (((x+1):Nat):Int))),(13,.e (iP ((aI d p true x).2))),(12,.box 12 0),(10,.box 10 0),(5,.box 5 0),(1,.e (iP n)),(2,.e (iP p)),(4,.e (.fn 93 []))],[(12,.cells 31 (aQ ((aI d p true x).1))),(10,.cells 31 [(bP false),(.v (.slice none 0 0)),(iP 0)]),(5,.cells 31 (aQ d))]⟩
def AM(d:Dy)(n N p:Nat)(x:Nat):PS:=⟨41,true,[(14,.e (iP (((x+1):Nat):Int))),(13,.e (iP ((aI d p true x).2))),(12,.box 12 0),(10,.box 10 0),(5,.box 5 0),(1,.e (iP n)),(2,.e (iP p)),(4,.e (.fn 93 []))],[(12,.cells 31 (aQ ((aI d p true x).1))),(10,.cells 31 [(bP false),(.v (.slice none 0 0)),(iP 0)]),(5,.cells 31 (aQ d))]⟩
theorem IG(a b:Dy)(ha:a.Valid)(hb:b.Valid):ae 190 [ag a,ag b] (.aq [ag (aO (av a b)),iP (bV (av a b))]):=tY Tryz.call190 (fun A c A' c' w h k hT=>BX a b A A' c c' w h k hT ha hb) rn
theorem pV(a b:Dy)(ha:a.Valid)(hb:b.Valid):ae 156 [ag a,ag b] (.aq [ag (aO (av a (aC b))),iP (bV (av a (aC b)))]):=tY Tryz.call156 (fun A c A' c' w h k hT=>KT a b A A' c c' w h k hT ha hb) rn
theorem pT(a b:Dy)(ha:a.Valid)(hb:b.Valid):ae 157 [(ag a),(ag b)] (.aq [(ag (aO (av a b))),(iP (bV (av a b)))]):=by
 exact tr true Tryz.call157 Tryz.func157 (chain [.c (fg _ ‹_›:ae 68 [(ag a)] _),.c (fg _ ‹_›:ae 68 [(ag b)] _),.c (IG _ _ ‹_› ‹_›:ae 190 [(ag a),(ag b)] _)] <| .nil) (by kernel_rfl)
theorem Hv(s:Bool)(m:Nat)(e:Int)(hl:(af m).length<=256)(he1:-1000000<=e)(he2:e<=1000000):ae 79 [bP s,ah (af m),iP e] (ag (canon s m e)):=by
 refine⟨Tryz.call79,fun w B vs hK hB hr=>?_⟩;obtain⟨v1,vs,rfl,h1,hr⟩:=hr.cK;obtain⟨v2,vs,rfl,h2,hr⟩:=hr.cK;obtain⟨v3,vs,rfl,h3,hr⟩:=hr.cK;obtain rfl:=hr.fB;obtain rfl:=ax.bQ h1;obtain rfl:=ax.bQ h3;obtain⟨A,c,rfl,s1⟩:=jZ (cA m) h2;exact(oF s m e A c w s1 hl he1 he2 hK).mono fun e w' h=>rd B w e w' hB h
theorem Hw(d:Dy)(hl:(af d.m).length<=100000000)(he1:-10000000<=d.e)(he2:d.e<=10000000):ae 78 [ag d] (.aq [ag (aO d),iP (bV d)]) :=
 kG Tryz.call78 (fun A c w h _=>sF d A c w h (by omega) (by omega) (by omega)) rn
theorem Ic(k:Int)(h1:-32768<=k)(h2:k<=32768):ae 77 [(iP k)] (bP true):=by
 exact tr true Tryz.call77 Tryz.func77 (chain [tT 4 ((-32768)<=k) (by omega),tT 7 (k<=32768) (by omega)] <| .nil) (by kernel_rfl)
theorem sx(d:Dy)(k:Int)(hv:d.Valid)(h1:-32768<=k)(h2:k<=32768):ae 36 [(ag d),(iP k)] (.aq [(ag (aO (canon d.neg d.m (d.e+k)))),(iP (bV (canon d.neg d.m (d.e+k))))]):=by
 have hl:=hv.af;have he:=hv.exp;have hb1:=Be (cA d.m) hl d.neg (d.e+k);obtain⟨hb2,hb3⟩:=Bd (cA d.m) hl d.neg (d.e+k) (by omega) (by omega);rw[bc]at hb1 hb2 hb3;exact tr true Tryz.call36 Tryz.func36 (chain [.c (fg _ ‹_›:ae 68 [(ag d)] _),.c (Ic _ (by omega) (by omega):ae 77 [(iP k)] _),ar (d.e+k) (by omega),
  .c (Hv _ _ _ (by omega) (by omega) (by omega):ae 79 [(bP d.neg),(ah (af d.m)),(iP (d.e+k))] _),.c (Hw _ (by omega) (by omega) (by omega):ae 78 [(ag (canon d.neg d.m (d.e+k)))] _)] <| .nil) (by kernel_rfl)
theorem vq(n:Nat)(h:n<4294967296):ae 113 [(iP n)] (ag (az (n:Int))):=by
 have ok2:ay [n%4294967296,n/4294967296%4294967296]:=ay.cons (Nat.mod_lt _ (by decide)) (ay.cons (Nat.mod_lt _ (by decide)) ay.nil);exact tr true Tryz.call113 Tryz.func113 (chain [.o 5 (.int (fW _ (by omega)):PV.le (.e (.v (.int .u64 (IntKind.u64.wrap (n:Int))))) (.e (.v (.int .u64 (n:Int))))),tF 7 ((n:Int)<0) (by omega),tF 11 ((n:Int)<0) (by omega),
  .o 13 (.int (pK _):PV.le (.e (.v (.int .u32 (IntKind.u32.wrap (n:Int))))) (.e (.v (.int .u32 (((n%4294967296):Nat):Int))))),.a (by omega:0<=(32:Int)/\(32:Int)<=((64:Nat):Int)),
  .o 15 (.int (FP _):PV.le (.e (.v (.int .u64 ((n:Int)/2^32)))) (.e (.v (.int .u64 (((n/4294967296):Nat):Int))))),
  .o 16 (.int (pK _):PV.le (.e (.v (.int .u32 (IntKind.u32.wrap (((n/4294967296):Nat):Int))))) (.e (.v (.int .u32 ((((n/4294967296)%4294967296):Nat):Int))))),
  .o 17 (.e (S3 _ _):PV.le (.e (.sl false 2 1 fun i_ j_=>[(.v (.int .u32 (((n%4294967296):Nat):Int))),(.v (.int .u32 ((((n/4294967296)%4294967296):Nat):Int)))].getD (i_*1+j_) (.v (.bool false)))) (.e (ah [(n%4294967296),((n/4294967296)%4294967296)]))),
  .c (KM _ _ _ ok2 (by simp) (by decide) (by decide):ae 79 [(bP false),(ah [(n%4294967296),((n/4294967296)%4294967296)]),(iP 0)] _)]<|rQ (ag (canon false (val [(n%4294967296),((n/4294967296)%4294967296)]) 0)) (ag (az (n:Int))) (by rw[val_two,show n%4294967296+4294967296*(n/4294967296%4294967296)=n by omega,mA])) (by kernel_rfl)
theorem NI:az 1=⟨false,1,0⟩:=by rw[show(1:Int)=((1:Nat):Int)from rfl,mA];exact Eg
theorem vo:ae 113 [iP 1] (ag ⟨false,1,0⟩):=by
 have:=vq 1 (by decide);rwa[show((1:Nat):Int)=1 from rfl,NI]at this
theorem ss(d:Dy)(p:Nat)(hd:d.Valid)(hp1:8<=p)(hp2:p<=512):ae 301 [(ag d),(iP p)] (.aq [(ag (bq d p false)),(iP (bg d p false))]):=by
 exact tr true Tryz.call301 Tryz.func301 (chain [.c (ue d p false ‹_› (by omega) (by omega))] <| .nil) (by kernel_rfl)
theorem su(d:Dy)(p:Nat)(hd:d.Valid)(hp1:8<=p)(hp2:p<=512):ae 300 [(ag d),(iP p)] (.aq [(ag (bq d p true)),(iP (bg d p true))]):=by
 exact tr true Tryz.call300 Tryz.func300 (chain [.c (ue d p true ‹_› (by omega) (by omega))] <| .nil) (by kernel_rfl)
theorem xW(d:Dy)(p:Nat)(up:Bool)(N:Nat)(h:(aI d p up N).2≠0):∀ k,aI d p up (N+k)=aI d p up N
 | 0=>rfl
 | k+1=>by
  have ih:=xW d p up N h k;show(if(aI d p up (N+k)).2≠0 then aI d p up (N+k)else _)=_;rw[ih,if_pos h]
theorem mJ{d:Dy}{p:Nat}{up:Bool}{k:Nat}(h:(aI d p up k).2=0):aI d p up (k+1)=(bq (cS (aI d p up k).1 d) p up,bg (cS (aI d p up k).1 d) p up):=by
 show(if(aI d p up k).2≠0 then _ else _)=_;rw[if_neg (not_not_intro h)];rfl
theorem It(d:Dy)(n p:Nat)(hd:d.Valid)(hn:1<=n)(hn2:n<=16)(hp1:8<=p)(hp2:p<=512)(hlo:∀ x,x<n-1->(aI d p false x).2=0):ae 299 [(ag d),(iP n),(iP p),(.fn 301 []),(.fn 92 [])] (.aq [ag (aI d p false (n-1)).1,iP (aI d p false (n-1)).2]):=by
 exact tr true Tryz.call299 Tryz.func299 (chain [.c (ss _ _ ‹_› (by omega) (by omega):ae 301 [(ag d),(iP p)] _),
  .s (Sp.upto (AJ d n p) 0 (n-1) (by omega) (fun x hx hltx=>by
    have hx0:=hlo x (by omega);have hv:=lE d (show 1<=p by omega) (show p<=4096 by omega) false x;exact aB (chain [tT 24 ((((x+1):Nat):Int)<(n:Int)) (by omega),tB 27 (by rw[hx0];rfl:(((aI d p false x).2)==0)=true),.c (uc ((aI d p false x).1) d p ‹_› ‹_› (by omega) (by omega)),
     ar ((((x+1):Nat):Int)+1) (by omega)] <| .e (chain [.o 13 (.int (by rw[mJ hx0]):PV.le (.e (iP (bg (cS ((aI d p false x).1) d) p false))) (.e (iP ((aI d p false (x+1)).2)))),
  .b 12 (.of_eq (by rw[mJ hx0]):Bx.le (.cells 31 (aQ (bq (cS ((aI d p false x).1) d) p false))) (.cells 31 (aQ ((aI d p false (x+1)).1))))] <| .nil)) (by kernel_rfl))
  (fun hx=>by
    exact aB (chain [tF 24 (((((n-1)+1):Nat):Int)<(n:Int)) (by omega)] <| .nil) (by kernel_rfl)) (by nofun):bD 3 Tryz.f299 (AJ d n p 0) (.exit 0) ⟨41,true,[(13,.e (iP ((aI d p false (n-1)).2))),(12,.box 12 0),(10,.box 10 0)],[(12,.cells 31 (aQ ((aI d p false (n-1)).1))),(10,.cells 31 [(bP false),(.v (.slice none 0 0)),(iP 0)])]⟩) (chain [.o 14 (.int rfl:PV.le (.e (iP 1)) (.e (iP (((0+1):Nat):Int)))),.o 13 (.int rfl:PV.le (.e (iP (bg d p false))) (.e (iP ((aI d p false 0).2)))),
  .b 12 (.of_eq rfl:Bx.le (.cells 31 (aQ (bq d p false))) (.cells 31 (aQ ((aI d p false 0).1))))] <| .nil)] <| .nil) (by kernel_rfl)
theorem Iu(d:Dy)(n N p:Nat)(hd:d.Valid)(hn:1<=n)(hn2:n<=16)(hp1:8<=p)(hp2:p<=512)(hN0:N<n-1)(hlo:∀ x,x<N->(aI d p false x).2=0)(hN:(aI d p false N).2≠0):ae 299 [(ag d),(iP n),(iP p),(.fn 301 []),(.fn 92 [])] (.aq [ag (aI d p false N).1,iP (aI d p false N).2]):=by
 exact tr true Tryz.call299 Tryz.func299 (chain [.c (ss _ _ ‹_› (by omega) (by omega):ae 301 [(ag d),(iP p)] _),
  .s (Sp.upto (AK d n N p) 0 N (by omega) (fun x hx hltx=>by
    have hx0:=hlo x (by omega);have hv:=lE d (show 1<=p by omega) (show p<=4096 by omega) false x;exact aB (chain [tT 24 ((((x+1):Nat):Int)<(n:Int)) (by omega),tB 27 (by rw[hx0];rfl:(((aI d p false x).2)==0)=true),.c (uc ((aI d p false x).1) d p ‹_› ‹_› (by omega) (by omega)),
     ar ((((x+1):Nat):Int)+1) (by omega)] <| .e (chain [.o 13 (.int (by rw[mJ hx0]):PV.le (.e (iP (bg (cS ((aI d p false x).1) d) p false))) (.e (iP ((aI d p false (x+1)).2)))),
  .b 12 (.of_eq (by rw[mJ hx0]):Bx.le (.cells 31 (aQ (bq (cS ((aI d p false x).1) d) p false))) (.cells 31 (aQ ((aI d p false (x+1)).1))))] <| .nil)) (by kernel_rfl))
  (fun hx=>by
    exact aB (chain [tT 24 ((((N+1):Nat):Int)<(n:Int)) (by omega),tB 27 (by simpa using hN:(((aI d p false N).2)==0)=false)] <| .nil) (by kernel_rfl)) (by nofun):bD 3 Tryz.f299 (AK d n N p 0) (.exit 0) ⟨41,true,[(13,.e (iP ((aI d p false N).2))),(12,.box 12 0),(10,.box 10 0)],[(12,.cells 31 (aQ ((aI d p false N).1))),(10,.cells 31 [(bP false),(.v (.slice none 0 0)),(iP 0)])]⟩) (chain [.o 14 (.int rfl:PV.le (.e (iP 1)) (.e (iP (((0+1):Nat):Int)))),.o 13 (.int rfl:PV.le (.e (iP (bg d p false))) (.e (iP ((aI d p false 0).2)))),
  .b 12 (.of_eq rfl:Bx.le (.cells 31 (aQ (bq d p false))) (.cells 31 (aQ ((aI d p false 0).1))))] <| .nil)] <| .nil) (by kernel_rfl)
theorem Iw(d:Dy)(n p:Nat)(hd:d.Valid)(hn:1<=n)(hn2:n<=16)(hp1:8<=p)(hp2:p<=512):ae 299 [(ag d),(iP n),(iP p),(.fn 301 []),(.fn 92 [])] (.aq [ag (aI d p false (n-1)).1,iP (aI d p false (n-1)).2]):=by
 by_cases h:∃ x,x<n-1/\decide ((aI d p false x).2≠0)=true
 .obtain ⟨N,h1,h2,h3⟩:=gF h
  have hN:(aI d p false N).2≠0:=of_decide_eq_true h2;have:=Iu d n N p hd hn hn2 hp1 hp2 h1 (fun x hx=>by simpa using h3 x hx) hN;have e:=xW d p false N hN (n-1-N);rw[show N+(n-1-N)=n-1 by omega]at e;rw[e];exact this
 .exact It d n p hd hn hn2 hp1 hp2 fun x hx=>Classical.byContradiction fun q=>h ⟨x,hx,decide_eq_true q⟩
theorem Ix(d:Dy)(n p:Nat)(hd:d.Valid)(hn:1<=n)(hn2:n<=16)(hp1:8<=p)(hp2:p<=512)(hlo:∀ x,x<n-1->(aI d p true x).2=0):ae 299 [(ag d),(iP n),(iP p),(.fn 300 []),(.fn 93 [])] (.aq [ag (aI d p true (n-1)).1,iP (aI d p true (n-1)).2]):=by
 exact tr true Tryz.call299 Tryz.func299 (chain [.c (su _ _ ‹_› (by omega) (by omega):ae 300 [(ag d),(iP p)] _),
  .s (Sp.upto (AL d n p) 0 (n-1) (by omega) (fun x hx hltx=>by
    have hx0:=hlo x (by omega);have hv:=lE d (show 1<=p by omega) (show p<=4096 by omega) true x;exact aB (chain [tT 24 ((((x+1):Nat):Int)<(n:Int)) (by omega),tB 27 (by rw[hx0];rfl:(((aI d p true x).2)==0)=true),.c (ud ((aI d p true x).1) d p ‹_› ‹_› (by omega) (by omega)),
     ar ((((x+1):Nat):Int)+1) (by omega)] <| .e (chain [.o 13 (.int (by rw[mJ hx0]):PV.le (.e (iP (bg (cS ((aI d p true x).1) d) p true))) (.e (iP ((aI d p true (x+1)).2)))),
  .b 12 (.of_eq (by rw[mJ hx0]):Bx.le (.cells 31 (aQ (bq (cS ((aI d p true x).1) d) p true))) (.cells 31 (aQ ((aI d p true (x+1)).1))))] <| .nil)) (by kernel_rfl))
  (fun hx=>by
    exact aB (chain [tF 24 (((((n-1)+1):Nat):Int)<(n:Int)) (by omega)] <| .nil) (by kernel_rfl)) (by nofun):bD 3 Tryz.f299 (AL d n p 0) (.exit 0) ⟨41,true,[(13,.e (iP ((aI d p true (n-1)).2))),(12,.box 12 0),(10,.box 10 0)],[(12,.cells 31 (aQ ((aI d p true (n-1)).1))),(10,.cells 31 [(bP false),(.v (.slice none 0 0)),(iP 0)])]⟩) (chain [.o 14 (.int rfl:PV.le (.e (iP 1)) (.e (iP (((0+1):Nat):Int)))),.o 13 (.int rfl:PV.le (.e (iP (bg d p true))) (.e (iP ((aI d p true 0).2)))),
  .b 12 (.of_eq rfl:Bx.le (.cells 31 (aQ (bq d p true))) (.cells 31 (aQ ((aI d p true 0).1))))] <| .nil)] <| .nil) (by kernel_rfl)
theorem Iy(d:Dy)(n N p:Nat)(hd:d.Valid)(hn:1<=n)(hn2:n<=16)(hp1:8<=p)(hp2:p<=512)(hN0:N<n-1)(hlo:∀ x,x<N->(aI d p true x).2=0)(hN:(aI d p true N).2≠0):ae 299 [(ag d),(iP n),(iP p),(.fn 300 []),(.fn 93 [])] (.aq [ag (aI d p true N).1,iP (aI d p true N).2]):=by
 exact tr true Tryz.call299 Tryz.func299 (chain [.c (su _ _ ‹_› (by omega) (by omega):ae 300 [(ag d),(iP p)] _),
  .s (Sp.upto (AM d n N p) 0 N (by omega) (fun x hx hltx=>by
    have hx0:=hlo x (by omega);have hv:=lE d (show 1<=p by omega) (show p<=4096 by omega) true x;exact aB (chain [tT 24 ((((x+1):Nat):Int)<(n:Int)) (by omega),tB 27 (by rw[hx0];rfl:(((aI d p true x).2)==0)=true),.c (ud ((aI d p true x).1) d p ‹_› ‹_› (by omega) (by omega)),
     ar ((((x+1):Nat):Int)+1) (by omega)] <| .e (chain [.o 13 (.int (by rw[mJ hx0]):PV.le (.e (iP (bg (cS ((aI d p true x).1) d) p true))) (.e (iP ((aI d p true (x+1)).2)))),
  .b 12 (.of_eq (by rw[mJ hx0]):Bx.le (.cells 31 (aQ (bq (cS ((aI d p true x).1) d) p true))) (.cells 31 (aQ ((aI d p true (x+1)).1))))] <| .nil)) (by kernel_rfl))
  (fun hx=>by
    exact aB (chain [tT 24 ((((N+1):Nat):Int)<(n:Int)) (by omega),tB 27 (by simpa using hN:(((aI d p true N).2)==0)=false)] <| .nil) (by kernel_rfl)) (by nofun):bD 3 Tryz.f299 (AM d n N p 0) (.exit 0) ⟨41,true,[(13,.e (iP ((aI d p true N).2))),(12,.box 12 0),(10,.box 10 0)],[(12,.cells 31 (aQ ((aI d p true N).1))),(10,.cells 31 [(bP false),(.v (.slice none 0 0)),(iP 0)])]⟩) (chain [.o 14 (.int rfl:PV.le (.e (iP 1)) (.e (iP (((0+1):Nat):Int)))),.o 13 (.int rfl:PV.le (.e (iP (bg d p true))) (.e (iP ((aI d p true 0).2)))),
  .b 12 (.of_eq rfl:Bx.le (.cells 31 (aQ (bq d p true))) (.cells 31 (aQ ((aI d p true 0).1))))] <| .nil)] <| .nil) (by kernel_rfl)
theorem Iz(d:Dy)(n p:Nat)(hd:d.Valid)(hn:1<=n)(hn2:n<=16)(hp1:8<=p)(hp2:p<=512):ae 299 [(ag d),(iP n),(iP p),(.fn 300 []),(.fn 93 [])] (.aq [ag (aI d p true (n-1)).1,iP (aI d p true (n-1)).2]):=by
 by_cases h:∃ x,x<n-1/\decide ((aI d p true x).2≠0)=true
 .obtain ⟨N,h1,h2,h3⟩:=gF h
  have hN:(aI d p true N).2≠0:=of_decide_eq_true h2;have:=Iy d n N p hd hn hn2 hp1 hp2 h1 (fun x hx=>by simpa using h3 x hx) hN;have e:=xW d p true N hN (n-1-N);rw[show N+(n-1-N)=n-1 by omega]at e;rw[e];exact this
 .exact Ix d n p hd hn hn2 hp1 hp2 fun x hx=>Classical.byContradiction fun q=>h ⟨x,hx,decide_eq_true q⟩
theorem As(d:Dy)(n p:Nat)(hd:d.Valid)(h0:¬d.sign<0)(hn:1<=n)(hn2:n<=16)(hp1:8<=p)(hp2:p<=512):ae 278 [(ag d),(iP n),(iP p),(bP false)] (.aq [ag (b5 d n p false).1,iP (b5 d n p false).2]):=by
 exact tr true Tryz.call278 Tryz.func278 (chain [.c (dJ _ ‹_›:ae 35 [(ag d)] _),tB 14 (decide_eq_false h0),
  .c (Iw _ _ _ ‹_› (by omega) (by omega) (by omega) (by omega):ae 299 [(ag d),(iP n),(iP p),(.fn 301 []),(.fn 92 [])] _)]<|rQ (.aq [(ag ((aI d p false (n-1)).1)),(iP ((aI d p false (n-1)).2))]) (.aq [ag (b5 d n p false).1,iP (b5 d n p false).2]) (by unfold b5;rw[if_neg h0])) (by kernel_rfl)
theorem At(d:Dy)(n p:Nat)(hd:d.Valid)(h0:¬d.sign<0)(hn:1<=n)(hn2:n<=16)(hp1:8<=p)(hp2:p<=512):ae 278 [(ag d),(iP n),(iP p),(bP true)] (.aq [ag (b5 d n p true).1,iP (b5 d n p true).2]):=by
 exact tr true Tryz.call278 Tryz.func278 (chain [.c (dJ _ ‹_›:ae 35 [(ag d)] _),tB 14 (decide_eq_false h0),
  .c (Iz _ _ _ ‹_› (by omega) (by omega) (by omega) (by omega):ae 299 [(ag d),(iP n),(iP p),(.fn 300 []),(.fn 93 [])] _)]<|rQ (.aq [(ag ((aI d p true (n-1)).1)),(iP ((aI d p true (n-1)).2))]) (.aq [ag (b5 d n p true).1,iP (b5 d n p true).2]) (by unfold b5;rw[if_neg h0])) (by kernel_rfl)
theorem sign_neg{d:Dy}(h:d.sign<0):¬(aC d).sign<0:=by
 rw[(gl _).2,fD];have:=(gl d).2.1 h
 grind
theorem HW(d:Dy)(n p:Nat)(hd:d.Valid)(h0:¬d.sign<0)(hn:1<=n)(hn2:n<=16)(hp1:8<=p)(hp2:p<=512):ae 278 [ag d,iP (n:Int),iP (p:Int),bP false] (.aq [ag (aI d p false (n-1)).1,iP (aI d p false (n-1)).2]):=by
 have:=As d n p hd h0 hn hn2 hp1 hp2;unfold b5 at this;rwa[if_neg h0]at this
theorem H8(d:Dy)(n p:Nat)(hd:d.Valid)(h0:¬d.sign<0)(hn:1<=n)(hn2:n<=16)(hp1:8<=p)(hp2:p<=512):ae 278 [ag d,iP (n:Int),iP (p:Int),bP true] (.aq [ag (aI d p true (n-1)).1,iP (aI d p true (n-1)).2]):=by
 have:=At d n p hd h0 hn hn2 hp1 hp2;unfold b5 at this;rwa[if_neg h0]at this
theorem Hz(d:Dy)(n p:Nat)(hd:d.Valid)(h0:d.sign<0)(hn:1<=n)(hn2:n<=16)(hp1:8<=p)(hp2:p<=512):ae 278 [(ag d),(iP n),(iP p),(bP false)] (.aq [ag (b5 d n p false).1,iP (b5 d n p false).2]):=by
 have hneg:=kC hd;have h1:=sign_neg h0;have hv:=lE (aC d) (show 1<=p by omega) (show p<=4096 by omega) true (n-1);exact tr true Tryz.call278 Tryz.func278 (chain [.c (dJ _ ‹_›:ae 35 [(ag d)] _),tB 14 (decide_eq_true h0),.c (kX _ ‹_›:ae 191 [(ag d)] _),
  .c (H8 _ _ _ hneg h1 hn hn2 hp1 hp2:ae 278 [(ag (aC d)),(iP n),(iP p),(bP true)] _),.c (kX _ ‹_›:ae 191 [(ag ((aI (aC d) p true (n-1)).1))] _)]<|rQ (.aq [(ag (aC ((aI (aC d) p true (n-1)).1))),(iP ((aI (aC d) p true (n-1)).2))]) (.aq [ag (b5 d n p false).1,iP (b5 d n p false).2]) (by unfold b5;rw[if_pos h0];rfl)) (by kernel_rfl)
theorem Au(d:Dy)(n p:Nat)(hd:d.Valid)(hn:1<=n)(hn2:n<=16)(hp1:8<=p)(hp2:p<=512):ae 278 [ag d,iP (n:Int),iP (p:Int),bP false] (.aq [ag (b5 d n p false).1,iP (b5 d n p false).2]):=by
 by_cases h0:d.sign<0
 .exact Hz d n p hd h0 hn hn2 hp1 hp2
 .exact As d n p hd h0 hn hn2 hp1 hp2
theorem HI(d:Dy)(n p:Nat)(hd:d.Valid)(h0:d.sign<0)(hn:1<=n)(hn2:n<=16)(hp1:8<=p)(hp2:p<=512):ae 278 [(ag d),(iP n),(iP p),(bP true)] (.aq [ag (b5 d n p true).1,iP (b5 d n p true).2]):=by
 have hneg:=kC hd;have h1:=sign_neg h0;have hv:=lE (aC d) (show 1<=p by omega) (show p<=4096 by omega) false (n-1);exact tr true Tryz.call278 Tryz.func278 (chain [.c (dJ _ ‹_›:ae 35 [(ag d)] _),tB 14 (decide_eq_true h0),.c (kX _ ‹_›:ae 191 [(ag d)] _),
  .c (HW _ _ _ hneg h1 hn hn2 hp1 hp2:ae 278 [(ag (aC d)),(iP n),(iP p),(bP false)] _),.c (kX _ ‹_›:ae 191 [(ag ((aI (aC d) p false (n-1)).1))] _)]<|rQ (.aq [(ag (aC ((aI (aC d) p false (n-1)).1))),(iP ((aI (aC d) p false (n-1)).2))]) (.aq [ag (b5 d n p true).1,iP (b5 d n p true).2]) (by unfold b5;rw[if_pos h0];rfl)) (by kernel_rfl)
theorem Av(d:Dy)(n p:Nat)(hd:d.Valid)(hn:1<=n)(hn2:n<=16)(hp1:8<=p)(hp2:p<=512):ae 278 [ag d,iP (n:Int),iP (p:Int),bP true] (.aq [ag (b5 d n p true).1,iP (b5 d n p true).2]):=by
 by_cases h0:d.sign<0
 .exact HI d n p hd h0 hn hn2 hp1 hp2
 .exact At d n p hd h0 hn hn2 hp1 hp2
theorem IA(x:Iv)(n p:Nat)(hx:x.Valid)(ha:x.all=true)(hn:n<=16)(hp1:8<=p)(hp2:p<=512):ae 241 [(ai x),(iP n),(iP p)] (ai (fT x n p)):=by
 exact tr true Tryz.call241 Tryz.func241 (chain [.o 12 (.e (cR _):PV.le (.e (.sl true 1 7 fun i_ j_=>(aF x).getD (i_*7+j_) (.v (.bool false)))) (.e (an [x]))),.c (eK _ ‹_›:ae 86 [(an [x])] _),tB 13 (by rw[ha];rfl:(!x.all)=false),
  .c du]<|rQ (ai aj) (ai (fT x n p)) (by unfold fT;rw[if_pos ha])) (by kernel_rfl)
theorem IE(x:Iv)(n p:Nat)(hx:x.Valid)(ha:x.all=false)(h0:n=0)(hp1:8<=p)(hp2:p<=512):ae 241 [(ai x),(iP n),(iP p)] (ai (fT x n p)):=by
 have v1:=po;exact tr true Tryz.call241 Tryz.func241 (chain [.o 12 (.e (cR _):PV.le (.e (.sl true 1 7 fun i_ j_=>(aF x).getD (i_*7+j_) (.v (.bool false)))) (.e (an [x]))),.c (eK _ ‹_›:ae 86 [(an [x])] _),tB 13 (by rw[ha];rfl:(!x.all)=true),
  .c (jx _:ae 87 [(iP p)] _),tB 17 (fS.2 ⟨by omega,by omega⟩:(cB (p:Int))=true),tF 22 ((n:Int)<0) (by omega),tF 26 (16<(n:Int)) (by omega),
  tB 30 (iW h0:((n:Int)==0)=true),.c (vo:ae 113 [(iP 1)] _),.c (o9 (Dy.mk false 1 0) ‹_›)]<|rQ (ai (cF (Dy.mk false 1 0))) (ai (fT x n p)) (by unfold fT;rw[if_neg (by rw[ha];decide),if_pos h0])) (by kernel_rfl)
theorem IB(x:Iv)(n p:Nat)(hx:x.Valid)(ha:x.all=false)(h0:n≠0)(hn:n<=16)(he:n%2=0)(hp1:8<=p)(hp2:p<=512):ae 241 [(ai x),(iP n),(iP p)] (ai (fT x n p)):=by
 have va:=sc hx;obtain⟨w1,w2⟩:=va.ends;exact tr true Tryz.call241 Tryz.func241 (chain [.o 12 (.e (cR _):PV.le (.e (.sl true 1 7 fun i_ j_=>(aF x).getD (i_*7+j_) (.v (.bool false)))) (.e (an [x]))),.c (eK _ ‹_›:ae 86 [(an [x])] _),tB 13 (by rw[ha];rfl:(!x.all)=true),
  .c (jx _:ae 87 [(iP p)] _),tB 17 (fS.2 ⟨by omega,by omega⟩:(cB (p:Int))=true),tF 22 ((n:Int)<0) (by omega),tF 26 (16<(n:Int)) (by omega),
  tB 30 (dZ h0:((n:Int)==0)=false),.a (by omega:0<(2:Int)),
  .o 34 (.int (by rw[Int.tmod_eq_emod_of_nonneg (by omega)];omega):PV.le (.e (iP (Int.tmod (n:Int) 2))) (.e (iP (((n%2):Nat):Int)))),tB 35 (iW he:((((n%2):Nat):Int)==0)=true),
  .c (wY x ‹_›),.c (Au _ _ _ ‹_› (by omega) (by omega) (by omega) (by omega):ae 278 [(ag ((bh x).lo)),(iP n),(iP p),(bP false)] _),
  .c (Av _ _ _ ‹_› (by omega) (by omega) (by omega) (by omega):ae 278 [(ag ((bh x).hi)),(iP n),(iP p),(bP true)] _),
  .c (nB ((b5 ((bh x).lo) n p false).1) ((b5 ((bh x).hi) n p true).1) ((b5 ((bh x).lo) n p false).2) ((b5 ((bh x).hi) n p true).2))]<|rQ (ai (ck ((b5 ((bh x).lo) n p false).1) ((b5 ((bh x).lo) n p false).2) ((b5 ((bh x).hi) n p true).1) ((b5 ((bh x).hi) n p true).2))) (ai (fT x n p)) (by unfold fT iK;rw[if_neg (by rw[ha];decide),if_neg h0,if_pos he])) (by kernel_rfl)
theorem IC(x:Iv)(n p:Nat)(hx:x.Valid)(ha:x.all=false)(h0:n≠0)(hn:n<=16)(he:¬n%2=0)(hp1:8<=p)(hp2:p<=512):ae 241 [(ai x),(iP n),(iP p)] (ai (fT x n p)):=by
 have va:=hx;obtain⟨w1,w2⟩:=va.ends;exact tr true Tryz.call241 Tryz.func241 (chain [.o 12 (.e (cR _):PV.le (.e (.sl true 1 7 fun i_ j_=>(aF x).getD (i_*7+j_) (.v (.bool false)))) (.e (an [x]))),.c (eK _ ‹_›:ae 86 [(an [x])] _),tB 13 (by rw[ha];rfl:(!x.all)=true),
  .c (jx _:ae 87 [(iP p)] _),tB 17 (fS.2 ⟨by omega,by omega⟩:(cB (p:Int))=true),tF 22 ((n:Int)<0) (by omega),tF 26 (16<(n:Int)) (by omega),
  tB 30 (dZ h0:((n:Int)==0)=false),.a (by omega:0<(2:Int)),
  .o 34 (.int (by rw[Int.tmod_eq_emod_of_nonneg (by omega)];omega):PV.le (.e (iP (Int.tmod (n:Int) 2))) (.e (iP (((n%2):Nat):Int)))),tB 35 (dZ he:((((n%2):Nat):Int)==0)=false),
  .c (Au _ _ _ ‹_› (by omega) (by omega) (by omega) (by omega):ae 278 [(ag x.lo),(iP n),(iP p),(bP false)] _),
  .c (Av _ _ _ ‹_› (by omega) (by omega) (by omega) (by omega):ae 278 [(ag x.hi),(iP n),(iP p),(bP true)] _),
  .c (nB ((b5 x.lo n p false).1) ((b5 x.hi n p true).1) ((b5 x.lo n p false).2) ((b5 x.hi n p true).2))]<|rQ (ai (ck ((b5 x.lo n p false).1) ((b5 x.lo n p false).2) ((b5 x.hi n p true).1) ((b5 x.hi n p true).2))) (ai (fT x n p)) (by unfold fT iK;rw[if_neg (by rw[ha];decide),if_neg h0,if_neg he])) (by kernel_rfl)
theorem ID(x:Iv)(n p:Nat)(hx:x.Valid)(hn:n<=16)(hp1:8<=p)(hp2:p<=512):ae 241 [ai x,iP (n:Int),iP (p:Int)] (ai (fT x n p)):=by
 cases ha:x.all with
 | true=>exact IA x n p hx ha hn hp1 hp2
 | false =>
  by_cases h0:n=0
  .exact IE x n p hx ha h0 hp1 hp2
  .by_cases he:n%2=0
   .exact IB x n p hx ha h0 hn he hp1 hp2
   .exact IC x n p hx ha h0 hn he hp1 hp2
theorem AG(x y:Iv)(hx:x.Valid)(hy:y.Valid)(xa:x.all=false)(ya:y.all=false):ae 158 [(ai x),(ai y)] (ai (eW x y)):=by
 obtain⟨v1,v2⟩:=hx.ends;obtain⟨v3,v4⟩:=hy.ends;exact tr true Tryz.call158 Tryz.func158 (chain [.o 7 (.e (lj _ _):PV.le (.e (.sl true 2 7 fun i_ j_=>(aF x++aF y).getD (i_*7+j_) (.v (.bool false)))) (.e (an [x,y]))),.c (lh _ _ ‹_› ‹_›:ae 86 [(an [x,y])] _),
  tB 8 (by rw[xa,ya];rfl:(!(x.all||y.all))=true),.c (tp x.lo y.lo ‹_› ‹_›),.c (tu x.hi y.hi ‹_› ‹_›)]<|rQ (ai (Iv.mk (minD x.lo y.lo) (maxD x.hi y.hi) false)) (ai (eW x y)) (by unfold eW;rw[xa,ya];rfl)) (by kernel_rfl)
theorem cM(z:Int):(z==0)=decide (z=0):=by by_cases h:z=0<;>simp[h]
theorem fo(x:Iv)(p:Nat)(hx:x.Valid)(xa:x.all=false)(hp1:8<=p)(hp2:p<=512):ae 160 [(ai x),(iP p)] (.aq [ag (bL x p),bP (decide (eR x p=0))]):=by
 obtain⟨v1,v2⟩:=hx.ends;have v3:=kC v1;exact tr true Tryz.call160 Tryz.func160 (chain [.o 9 (.e (cR _):PV.le (.e (.sl true 1 7 fun i_ j_=>(aF x).getD (i_*7+j_) (.v (.bool false)))) (.e (an [x]))),.c (eK _ ‹_›:ae 86 [(an [x])] _),tB 10 (by rw[xa];rfl:(!x.all)=true),
  .c (jx _:ae 87 [(iP p)] _),tB 14 (fS.2 ⟨by omega,by omega⟩:(cB (p:Int))=true),.c (kX _ ‹_›:ae 191 [(ag x.lo)] _),
  .c (EL x.hi (aC x.lo) p ‹_› ‹_› (by omega) (by omega))]<|rQ (.aq [(ag (bq (av x.hi (aC x.lo)) p true)),(bP ((bg (av x.hi (aC x.lo)) p true)==0))]) (.aq [ag (bL x p),bP (decide (eR x p=0))]) (by rw[cM];rfl)) (by kernel_rfl)
theorem sr(x y:Iv):mz x y=(y.all||(!x.all&&(decide (aD y.lo x.lo<=0)&&decide (aD x.hi y.hi<=0)))):=rfl
theorem Ih(x y:Iv)(hx:x.Valid)(hy:y.Valid):ae 63 [(ai x),(ai y)] (bP (mz x y)):=by
 obtain⟨v1,v2⟩:=hx.ends;obtain⟨v3,v4⟩:=hy.ends;exact tr true Tryz.call63 Tryz.func63 (chain [.c (dc x ‹_›),.c (dc y ‹_›)] <| .w (y.all=true)
  (fun k1=>chain [tB 14 (k1)]<|rQ (bP true) (bP (mz x y)) (by rw[sr];simp[k1]))
  (fun k1=>chain [tB 14 (Bool.eq_false_iff.2 k1)] <| .w (x.all=true)
   (fun k2=>chain [tB 17 (k2)]<|rQ (bP false) (bP (mz x y)) (by rw[sr];simp[k1,k2]))
   (fun k2=>chain [tB 17 (Bool.eq_false_iff.2 k2),.c (b9 _ _ ‹_› ‹_›:ae 37 [(ag y.lo),(ag x.lo)] _)] <| .w ((aD y.lo x.lo)<=0)
    (fun k3=>chain [tB 25 (decide_eq_true k3),.c (b9 _ _ ‹_› ‹_›:ae 37 [(ag x.hi),(ag y.hi)] _)]<|rQ (bP (decide ((aD x.hi y.hi)<=0))) (bP (mz x y)) (by rw[sr];simp[k1,k2,k3]))
    (fun k3=>chain [tB 25 (decide_eq_false k3)]<|rQ (bP false) (bP (mz x y)) (by rw[sr];simp[k1,k2,k3]))))) (by kernel_rfl)
open Go.RowKit Fp Pu
theorem TW{α:Type}{l:List α}{i:Nat}{d:α}(h:i<l.length):l.getD i d=l[i]:=by
 rw[List.getD_eq_getElem?_getD,List.getElem?_eq_getElem h];rfl
theorem kz{T n n' k:Nat}{F:Nat->Iv}{y:Iv}(hn:n=k)(hn':n'=k+1)(hy:y=F k) :
  Bx.le (.row true T (n+[y].length) 7 fun i j=>if i<n then bA ((List.range k).map F) i j else(E.fP (an [y])) (i-n) j) (.row true T n' 7 (bA ((List.range (k+1)).map F))):=by
 subst hn hn' hy;refine .row rfl fun i j hi hj=>⟨.of_eq ?_,tn _ _ hj⟩
 have hi:i<n+1:=hi;by_cases h:i<n
 .rw [if_pos h]
  simp only[bA];rw[yd h,yd hi]
 .have hi':i=n:=by omega
  subst hi';rw[if_neg h,Nat.sub_self];simp only[bA];rw[yd hi];rfl
theorem nD{n:Nat}{M:List Iv}(hn:n=M.length):E.le (.sl true n 7 (bA M)) (an M):=by subst hn;exact .refl _
open Go.RowKit Fp Pu
open Go.RowKit Fp Pu
theorem nL(n:Nat)(h:n<4294967296):(aN ((n:Nat):Int)).Valid:=jF (wU n h)
open Go.RowKit Fp Pu
structure Fp.Iv.NN(x:Iv):Prop where
 lo:x.lo.neg=false
 hi:x.hi.neg=false
theorem Bf(m:Nat)(e:Int):(canon false m e).neg=false:=by unfold canon;split<;>rfl
theorem PO{d:Dy}(h:d.neg=false):(cF d).NN:=⟨h,h⟩
theorem D9(n:Nat):(aN ((n:Nat):Int)).NN:=by
 refine PO ?_;rw[mA];exact Bf _ _
theorem NB{c:Nat}(hc:0<c):(az ((c:Nat):Int)).m≠0:=by
 rw[mA];exact(ni (s:=false) (e:=0) (by omega)).2.2.1
theorem Pn{c:Nat}(hc:0<c):dw (aN ((c:Nat):Int))=1:=by
 unfold dw aN cF;simp only[Bool.false_eq_true,if_false];rw[if_pos];unfold Dy.sign;rw[if_neg (NB hc),show(az ((c:Nat):Int)).neg=false by rw[mA];exact Bf _ _];simp
open Go.RowKit Fp Pu
open Go.RowKit Fp Pu
section
variable {m m':List (List Iv)} {h h':Iv} {n p:Nat}
theorem qT(j:Nat)(hj:j<4294967296):(aN ((j:Nat):Int)).Valid:=jF (wU j hj)
end
theorem P4{d:Dy}(h:d.neg=false):0<=d.q:=by
 rw[e9,h];exact Rat.mul_nonneg (Rat.natCast_nonneg) (Rat.le_of_lt (dt _))
structure Lq(x y:Iv):Prop where
 v:x.Valid
 v':y.Valid
 nn:x.NN
 TZ:y.NN
 le:y.all=true\/(x.all=false/\x.hi.q<=y.hi.q)
theorem Fp.Iv.has.nn{x:Iv}{r:Rat}(h:x.has r)(k:x.all=false)(hx:x.NN):0<=r/\r<=x.hi.q:=by
 obtain⟨h1,h2⟩:=h.ends k;have:=P4 hx.lo;exact⟨by grind,h2⟩
theorem Ea(c:Nat):(aN ((c:Nat):Int)).lo.q=(c:Rat)/\(aN ((c:Nat):Int)).hi.q=(c:Rat)/\(aN ((c:Nat):Int)).all=false:=by
 refine⟨?_,?_,rfl⟩
 .show (az _).q=_
  rw[mK];exact Rat.intCast_natCast c
 .show (az _).q=_
  rw[mK];exact Rat.intCast_natCast c
theorem Lq.num(c:Nat)(hc:c<4294967296):Lq (aN ((c:Nat):Int)) (aN ((c:Nat):Int)):=⟨qT c hc,qT c hc,D9 c,D9 c,.inr ⟨rfl,Rat.le_refl⟩⟩
open Go.RowKit Fp Pu
theorem yx(s:Bool)(m:Nat)(e:Int)(hl:(af m).length<=3000)(he1:-1000000<=e)(he2:e<=1000000):ae 76 [bP s,ah (af m),iP e] (ag (canon s m e)):=by
 refine⟨Tryz.call76,fun w B vs hK hB hr=>?_⟩;obtain⟨v1,vs,rfl,h1,hr⟩:=hr.cK;obtain⟨v2,vs,rfl,h2,hr⟩:=hr.cK;obtain⟨v3,vs,rfl,h3,hr⟩:=hr.cK;obtain rfl:=hr.fB;obtain rfl:=ax.bQ h1;obtain rfl:=ax.bQ h3;obtain⟨A,c,rfl,s1⟩:=jZ (cA m) h2;have:=ug s A c (af m) e w s1 hl he1 he2;rw[bc]at this;exact this.mono fun e w' h=>rd B w e w' hB h
theorem ja(a:Dy)(ha:a.Valid):ae 46 [ag a] (bP true):=kG Tryz.call46 (fun A c w h _=>Q7 a A c w h ha) rv
theorem uh(a:Dy):ae 47 [ag a] (iP a.sign):=kG Tryz.call47 (fun A c w h _=>Q4 a A c w h) rv
theorem Fh(a:Dy):ae 99 [ag a] (ag (aC a)) :=
 kG Tryz.call99 (fun A c w h _=>by
  have:=QX a.neg A c (af a.m) a.e w h (jf _);rw[bc]at this;exact this) rd
theorem ui(a:Dy)(ha:lY a):ae 97 [ag a] (iP a.top):=kG Tryz.call97 (fun A c w h _=>Q6 a A c w h ha) rv
theorem QU(n:Nat)(hn:n<4294967296):ae 81 [iP ((n:Nat):Int)] (ag (canon false n 0)):=by
 refine⟨Tryz.call81,fun w B vs hK hB hr=>?_⟩;obtain⟨v1,vs,rfl,h1,hr⟩:=hr.cK;obtain rfl:=hr.fB;obtain rfl:=ax.bQ h1;exact(QT n w hn).mono fun e w' h=>rd B w e w' hB h
theorem Fg(a b:Dy)(r:Bool)(hr:r=true↔a=b)(ha:(af a.m).length<=100000)(hb:(af b.m).length<=100000):ae 101 [ag a,ag b] (bP r) :=
 tY Tryz.call101 (fun A c A' c' w h k _=>QP a b A A' c c' w _ h k ha hb hr) rv
end Go.Proofs.YtdgnpeddgdclhaaGreatDoor
namespace Go.Proofs.YtdgnpeddgdclhaaGreatDoor.Fp
end Go.Proofs.YtdgnpeddgdclhaaGreatDoor.Fp
namespace Go.Proofs.YtdgnpeddgdclhaaGreatDoor
open Go.RowKit Fp Pu
theorem Q1(d:Dy)(k:Int)(hd:d.Valid)(hk1:-32768<=k)(hk2:k<=32768)(hr:cY (canon d.neg d.m (d.e+k))):ae 31 [ag d,iP k] (.aq [ag (canon d.neg d.m (d.e+k)),iP 0]):=by
 refine⟨Tryz.call31,fun w B vs hK hB hrr=>?_⟩;obtain⟨v1,vs,rfl,h1,hrr⟩:=hrr.cK;obtain⟨v2,vs,rfl,h2,hrr⟩:=hrr.cK;obtain rfl:=hrr.fB;obtain⟨A,c,rfl,s1⟩:=sO h1;obtain rfl:=ax.bQ h2;have:=Q2 d.neg A c (af d.m) d.e k w s1 hd.jl hk1 hk2 (by rw[bc];exact hr);rw[bc]at this;exact this.mono fun e w' h=>rn B w e w' hB h
theorem Bc{n:Int}{e:Int}:canon (az n).neg (az n).m ((az n).e+e)=bS n e:=by
 unfold az bS;by_cases h:n.natAbs=0
 .rw [h,oE,oE]
  show canon false 0 _=_;rw[oE]
 .have h1:=qk h
  rw[show canon (decide (n<0)) n.natAbs 0=⟨decide (n<0),n.natAbs/2^aY n.natAbs,0+(aY n.natAbs:Int)⟩by unfold canon;rw[if_neg h]];show canon (decide (n<0)) (n.natAbs/2^aY n.natAbs) (0+(aY n.natAbs:Int)+e)=_;rw[<-vI _ _ _ (aY n.natAbs),h1];congr 1;omega
theorem pX{n e:Int}(h1:n.natAbs<4294967296)(h2:-1000<=e)(h3:e<=1000):(bS n e).Valid:=by
 refine⟨gY _ _ _,?_⟩;unfold bS;by_cases h0:n.natAbs=0
 .rw [h0,oE];exact .inl rfl
 .have:=ni (s:=decide (n<0)) (e:=e) h0
  have hb:ak n.natAbs<=32:=cv.2 h1;obtain⟨h4,h5,h6,_⟩:=this;have:=dX h6;exact .inr ⟨by omega,by omega,by omega,by omega⟩
theorem dD{n:Int}(h1:n.natAbs<4294967296):(az n).Valid:=pX h1 (by decide) (by decide)
theorem QR(k:Nat)(w:World)(h0:0<k)(hn:k<4294967296) :
  Calls Tryz.prog 81 #[.int .i64 (-(k:Int))] w (kj w (canon true k 0)):=by
 have hm:=kQ k (by omega);have hm2:(k:Int)%4294967296=k:=by omega
 rw[hm2]at hm;have hd:(k:Int)/4294967296=0:=by omega
 have hlt:(-(k:Int))<0:=by omega
 have hdl:decide ((-(k:Int))<0)=true:=decide_eq_true hlt;have hu:IntKind.u64.wrap (-(k:Int))=18446744073709551616-k:=by rw[IntKind.wrap_u64];omega
 have hs:IntKind.u64.wrap (-(18446744073709551616-(k:Int)))=k:=by rw[IntKind.wrap_u64];omega
 have HC:=Lib.hid (fun(A:Option Addr) c w (h:Sl w A c [k,0])=>ug true A c [k,0] 0 w h (by simp) (by decide) (by decide));have hv:val [k,0]=k:=by simp
 rw[hv]at HC;clear hv;generalize canon true k 0=d at *
 generalize hN:(-(k:Int))=N at *
 go_enter Tryz.func81,Tryz.ntmps81;go_wp2_with fail;refine(HC.out _ _ _ (Sl.two _ _ (by simp) _ _ k 0 rfl rfl hn (by decide))).mono ?_;rintro r w1 ⟨A1,c1,rfl,hs1,hb1⟩;have hb0:Ext (w.alloc (.cells #[.bool false,.slice none 0 0,.int .i64 0] 31)) w1:=(Ext.alloc _ _).trans hb1;have bx:=(aJ.new w false none 0 0 0).ext hb0
 have b0:=bx.c0;have b1:=bx.c1;have b2:=bx.c2;have f0:=bx.fr 0;have f1:=bx.fr 1;have f2:=bx.fr 2;go_wp2;exact iN rfl rfl rfl (bx.set _ _ _ _ _) rfl (bx.fF hs1 _ _ _ _ _) (aJ.fi ((Ext.alloc _ _).trans hb0) (Nat.le_refl _) _ _ _ _ _)
theorem CS(k:Nat)(h0:0<k):az (-(k:Int))=canon true k 0:=by
 unfold az bS;rw[decide_eq_true (show(-(k:Int))<0 by omega),Int.natAbs_neg,Int.natAbs_natCast]
theorem QS(n:Int)(h:n.natAbs<4294967296):ae 81 [iP n] (ag (az n)):=by
 by_cases h0:0<=n
 .obtain ⟨k,rfl⟩:=Int.eq_ofNat_of_zero_le h0
  rw[mA];exact QU k (by omega)
 .obtain ⟨k,rfl⟩:∃ k:Nat,n = -(k:Int):=⟨n.natAbs,by omega⟩
  rw[CS k (by omega)];refine⟨Tryz.call81,fun w B vs hK hB hr=>?_⟩;obtain⟨v1,vs,rfl,h1,hr⟩:=hr.cK;obtain rfl:=hr.fB;obtain rfl:=ax.bQ h1;exact(QR k w (by omega) (by omega)).mono fun e w' h=>rd B w e w' hB h
open Go.RowKit Fp Pu
open Classical in
noncomputable def Fp.il(d:Dy)(k:Int):Dy:=if cY (canon d.neg d.m (d.e+k))then canon d.neg d.m (d.e+k)else aT
open Classical in
noncomputable def Fp.nY(d:Dy)(k:Int):Int:=if cY (canon d.neg d.m (d.e+k))then 0 else 9
theorem FB(d:Dy)(k:Int):(il d k).Valid:=by
 unfold il;split
 .rename_i h;exact⟨gY _ _ _,h⟩
 .exact gL
noncomputable def Fp.c9(x:Iv)(k:Int):Iv:=if x.all then aj else ck (il x.lo k) (nY x.lo k) (il x.hi k) (nY x.hi k)
def Fp.fH(x:Iv):Iv:=if x.all then x else⟨aC (di x),di x,false⟩
def Fp.eO(n:Int):Dy:=canon false 1 n
theorem jC{n:Int}(h:n.natAbs<4294967296):(aN n).Valid:=jF (dD h)
theorem oA{x:Iv}(hx:x.Valid):(fH x).Valid:=by
 unfold fH;cases hxa:x.all
 .have he:=hx.ends
  have hm:=tD he.1 he.2;simp only[Bool.false_eq_true,if_false];refine .inr ⟨rfl,kC hm,hm,?_⟩;show aD (aC (di x)) (di x)<=0;rw[eI,fD];obtain⟨a1,a2,_⟩:=nG hx.q;have:=hx.q
  grind
 .exact hx
theorem RQ{d:Dy}{k:Int}(h:nY d k=0):il d k=canon d.neg d.m (d.e+k):=by
 unfold nY at h;unfold il;split at h
 .rename_i h1;rw[if_pos h1]
 .cases h
theorem mO{d:Dy}{k:Int}(h:nY d k=0):(il d k).q=d.q*P2 k:=by
 rw[RQ h,fU,e9 d,fG];cases d.neg<;>simp<;>grind
theorem uy{x:Iv}(hx:x.Valid)(k:Int):(c9 x k).Valid:=by
 unfold c9;split
 .exact cC
 .unfold ck
  split
  .exact cC
  .rename_i h
   refine .inr ⟨rfl,FB _ _,FB _ _,?_⟩;rw[eI,mO (by omega),mO (by omega),jB];exact hx.q
theorem yM{x:Iv}{r:Rat}(h:x.has r)(k:Int):(c9 x k).has (r*P2 k):=by
 unfold c9;split
 .exact .inl rfl
 .rename_i ha
  unfold ck;split
  .exact .inl rfl
  .obtain ⟨h1,h2⟩:=h.ends (by simpa using ha)
   refine .inr ⟨?_,?_⟩
   .show (il x.lo k).q<=_
    rw[mO (by omega),jB];exact h1
   .show _<=(il x.hi k).q
    rw[mO (by omega),jB];exact h2
open Go.RowKit Fp Pu
theorem KQ(k:Nat)(w:World)(h0:0<k)(hn:k<4294967296)(hTb:Tb w) :
  Calls Tryz.prog 113 #[.int .i64 (-(k:Int))] w (kj w (canon true k 0)):=by
 have hd:(k:Int)/4294967296=0:=by omega
 have hlt:(-(k:Int))<0:=by omega
 have hdl:decide ((-(k:Int))<0)=true:=decide_eq_true hlt;have hu:IntKind.u64.wrap (-(k:Int))=18446744073709551616-k:=by rw[IntKind.wrap_u64];omega
 have hs:IntKind.u64.wrap (-(18446744073709551616-(k:Int)))=k:=by rw[IntKind.wrap_u64];omega
 have h32:IntKind.u32.wrap (k:Int)=k:=by rw[IntKind.wrap_u32];omega
 have ht:(aw [k,0]).length<=256:=by have:=eD [k,0];unfold cN at this;simp at this;omega
 have HC:=Lib.hid (fun(A:Option Addr) c w (h:Sl w A c [k,0]) (hT:Tb w)=>sN true A c [k,0] 0 w h (by simp) ht (by decide) (by decide) hT);have hv:val [k,0]=k:=by simp
 rw[hv]at HC;clear hv ht;generalize canon true k 0=d at *
 generalize hN:(-(k:Int))=N at *
 go_enter Tryz.func113,Tryz.ntmps113;go_wp2_with fail;refine(HC.out _ _ _ (Sl.two _ _ (by simp) _ _ k 0 rfl rfl hn (by decide)) (hTb.below (by first|exact(Ext.alloc _ _).trans (Ext.alloc _ _)|exact Ext.alloc _ _))).mono ?_;rintro r w1 ⟨A1,c1,rfl,hs1,hb1⟩;have hb0:Ext (w.alloc (.cells #[.bool false,.slice none 0 0,.int .i64 0] 31)) w1:=(Ext.alloc _ _).trans hb1
 have bx:=(aJ.new w false none 0 0 0).ext hb0;have b0:=bx.c0;have b1:=bx.c1;have b2:=bx.c2;have f0:=bx.fr 0;have f1:=bx.fr 1;have f2:=bx.fr 2;go_wp2;exact iN rfl rfl rfl (bx.set _ _ _ _ _) rfl (bx.fF hs1 _ _ _ _ _) (aJ.fi ((Ext.alloc _ _).trans hb0) (Nat.le_refl _) _ _ _ _ _)
theorem dB(n:Int)(h:n.natAbs<4294967296):ae 113 [iP n] (ag (az n)):=by
 by_cases h0:0<=n
 .obtain ⟨k,rfl⟩:=Int.eq_ofNat_of_zero_le h0
  exact vq k (by omega)
 .obtain ⟨k,rfl⟩:∃ k:Nat,n = -(k:Int):=⟨n.natAbs,by omega⟩
  rw[CS k (by omega)];refine⟨Tryz.call113,fun w B vs hK hB hr=>?_⟩;obtain⟨v1,vs,rfl,h1,hr⟩:=hr.cK;obtain rfl:=hr.fB;obtain rfl:=ax.bQ h1;exact(KQ k w (by omega) (by omega) hK).mono fun e w' h=>rd B w e w' hB h
theorem RO(d:Dy)(k:Int):aO (canon d.neg d.m (d.e+k))=il d k:=by unfold aO il;split<;>simp_all
theorem RP(d:Dy)(k:Int):bV (canon d.neg d.m (d.e+k))=nY d k:=by unfold bV nY;split<;>simp_all
open Go.RowKit Fp Pu
def aA(f:Nat->Rat):Nat->Rat
 | 0=>0
 | n+1=>aA f n+f n
theorem fc{f g:Nat->Rat}:∀ n,(∀ i,i<n->f i=g i)->aA f n=aA g n
 | 0,_=>rfl
 | n+1,h=>by rw[aA,aA,fc n (fun i hi=>h i (by omega)),h n (by omega)]
theorem nZ{f g:Nat->Rat}:∀ n,(∀ i,i<n->f i<=g i)->aA f n<=aA g n
 | 0,_=>Rat.le_refl
 | n+1,h=>by
  have h1:=nZ n (fun i hi=>h i (by omega));have h2:=h n (by omega);rw[aA,aA];grind
theorem oc{f:Nat->Rat}(n:Nat)(h:∀ i,i<n->0<=f i):0<=aA f n:=by
 induction n with
 | zero=>exact Rat.le_refl
 | succ n ih =>
  have h1:=ih (fun i hi=>h i (by omega));have h2:=h n (by omega);rw[aA];grind
theorem mT(f:Nat->Rat)(c:Rat):∀ n,aA (fun i=>c*f i) n=c*aA f n
 | 0=>by simp[aA]
 | n+1=>by rw[aA,aA,mT f c n];grind
theorem pG(f:Nat->Rat)(c:Rat):∀ n,aA (fun i=>f i*c) n=aA f n*c
 | 0=>by simp[aA]
 | n+1=>by rw[aA,aA,pG f c n];grind
theorem rE(f g:Nat->Rat):∀ n,aA (fun i=>f i+g i) n=aA f n+aA g n
 | 0=>by simp only[aA];grind
 | n+1=>by rw[aA,aA,aA,rE f g n];grind
theorem rF(f:Nat->Nat->Rat)(m:Nat):∀ n,aA (fun i=>aA (fun j=>f i j) m) n=aA (fun j=>aA (fun i=>f i j) n) m
 | 0=>by
  have:∀ m,aA (fun _=>(0:Rat)) m=0:=by
   intro m
   induction m with
   | zero=>rfl
   | succ m ih=>rw[aA,ih];grind
  exact(this m).symm
 | n+1=>by
  rw[aA,rF f m n,<-rE];rfl
theorem Ga(f:Nat->Rat):∀ n,aA f (n+1)=f 0+aA (fun i=>f (i+1)) n
 | 0=>by simp only[aA];grind
 | n+1=>by rw[aA,Ga f n,aA];grind
def aE(x:Rat):Rat:=if 0<=x then x else -x
theorem cI(x:Rat):0<=aE x/\x<=aE x /\ -x<=aE x/\(aE x=x/\0<=x\/aE x = -x/\x<=0):=by unfold aE;split<;>grind
theorem jM{x b:Rat}(h1:x<=b)(h2:-x<=b):aE x<=b:=by unfold aE;split<;>grind
theorem sd(x y:Rat):aE (x+y)<=aE x+aE y:=by
 obtain⟨a1,a2,a3,_⟩:=cI x;obtain⟨b1,b2,b3,_⟩:=cI y;exact jM (by grind) (by grind)
theorem ko(x y:Rat):aE (x*y)=aE x*aE y:=by
 obtain⟨_,_,_,a⟩:=cI x;obtain⟨_,_,_,b⟩:=cI y;obtain⟨c1,_,_,c⟩:=cI (x*y);rcases a with⟨e1,h1⟩|⟨e1,h1⟩<;>rcases b with⟨e2,h2⟩|⟨e2,h2⟩<;>rw[e1,e2]
 .have:=Rat.mul_nonneg h1 h2;grind
 .have:=Rat.mul_nonneg h1 (show 0 <= -y by grind);grind
 .have:=Rat.mul_nonneg (show 0 <= -x by grind) h2;grind
 .have:=Rat.mul_nonneg (show 0 <= -x by grind) (show 0 <= -y by grind);grind
theorem oo(f:Nat->Rat):∀ n,aE (aA f n)<=aA (fun i=>aE (f i)) n
 | 0=>by simp[aA,aE]
 | n+1=>by
  have h1:=oo f n;have h2:=sd (aA f n) (f n);rw[aA,aA];grind
theorem Ac:aE 0=0:=rfl
abbrev QM:=Nat->Nat->Rat
def fh(n:Nat)(A B:QM):QM:=fun i j=>aA (fun q=>A i q*B q j) n
def kD:QM:=fun i j=>if i=j then 1 else 0
def TQ(n:Nat)(M:QM)(t:Rat):Nat->QM
 | 0=>kD
 | j+1=>fun i l=>t/((j+1:Nat):Rat)*fh n (TQ n M t j) M i l
def SQ(n:Nat)(M:QM)(t:Rat):Nat->QM
 | 0=>kD
 | j+1=>fun i l=>SQ n M t j i l+TQ n M t (j+1) i l
theorem Eb(j:Nat):(aN ((j:Nat):Int)).has ((j:Nat):Rat):=by have:=lr ((j:Nat):Int);rwa[Rat.intCast_natCast]at this
section
variable {m:List (List Iv)} {h:Iv} {M:QM} {t:Rat} {n p:Nat}
def lZ(n:Nat)(A:QM)(b:Rat):Prop:=∀ i,i<n->aA (fun l=>aE (A i l)) n<=b
theorem Rz{A B:QM}{a b:Rat}(_h0:0<=a)(hb:0<=b)(h1:lZ n A a)(h2:lZ n B b):lZ n (fh n A B) (a*b):=by
 intro i hi;have e1:aA (fun l=>aE (fh n A B i l)) n<=aA (fun l=>aA (fun q=>aE (A i q)*aE (B q l)) n) n :=
  nZ n fun l _=>by
   have:=oo (fun q=>A i q*B q l) n;rw[show(fun q=>aE (A i q*B q l))=fun q=>aE (A i q)*aE (B q l)from funext fun q=>ko _ _]at this;exact this
 rw[rF]at e1;have e2:aA (fun q=>aA (fun l=>aE (A i q)*aE (B q l)) n) n<=aA (fun q=>aE (A i q)*b) n :=
  nZ n fun q hq=>by
   rw[mT];exact Rat.mul_le_mul_of_nonneg_left (h2 q hq) (cI _).1
 rw[pG]at e2;exact Rat.le_trans e1 (Rat.le_trans e2 (Rat.mul_le_mul_of_nonneg_right (h1 i hi) hb))
def eQ(c:Rat):Nat->Rat
 | 0=>1
 | j+1=>eQ c j*(c/((j+1:Nat):Rat))
theorem mD(j:Nat):(0:Rat)<((j+1:Nat):Rat):=Rat.natCast_pos.2 (by omega)
theorem BN{a b:Rat}(h1:0<=a)(h2:0<b):0<=a/b:=by
 rw[Rat.div_def];exact Rat.mul_nonneg h1 (Rat.le_of_lt (Rat.inv_pos.2 h2))
theorem jo{c:Rat}(h:0<=c):∀ j,0<=eQ c j
 | 0=>by simp only[eQ];decide
 | j+1=>Rat.mul_nonneg (jo h j) (BN h (mD j))
theorem Sn(n i:Nat):aA (fun l=>aE (kD i l)) n<=1/\(n<=i->aA (fun l=>aE (kD i l)) n=0):=by
 induction n with
 | zero=>exact⟨by simp only[aA];grind,fun _=>rfl⟩
 | succ n ih =>
  have e1:aE 1=1:=by decide
  simp only[aA,kD]at ih ⊢;by_cases h:i=n
  .have:=ih.2 (by omega)
   rw[this,if_pos h,e1];exact⟨by grind,fun h'=>absurd h' (by omega)⟩
  .rw [if_neg h,Ac,Rat.add_zero]
   exact⟨ih.1,fun h'=>ih.2 (by omega)⟩
theorem Ru{A:QM}{b:Rat}(h:lZ n A b){i l:Nat}(hi:i<n)(hl:l<n):aE (A i l)<=b:=by
 have h1:=h i hi;have:∀ m,l<m->aE (A i l)<=aA (fun l=>aE (A i l)) m:=by
  intro m hm
  induction m with
  | zero=>omega
  | succ m ih =>
   rw[aA];have h0:=oc m (f:=fun l=>aE (A i l)) fun i _=>(cI _).1
   have h2:=(cI (A i m)).1;by_cases hq:l=m
   .subst hq;grind
   .have:=ih (by omega);grind
 exact Rat.le_trans (this n hl) h1
end
open Go.RowKit Fp Pu
theorem uG(g:Nat->Nat->Rat):∀ m,aA (fun j=>aA (g j) (m-j)) m=aA (fun s=>aA (fun j=>g j (s-j)) (s+1)) m
 | 0=>rfl
 | m+1=>by
  have ih:=uG g m;have e1:aA (fun j=>aA (g j) (m+1-j)) m=aA (fun j=>aA (g j) (m-j)+g j (m-j)) m :=
   fc m fun j hj=>by rw[show m+1-j=m-j+1 by omega];rfl
  have h1:aA (g m) (m+1-m)=g m 0:=by
   rw[show m+1-m=0+1 by omega];simp only[aA];grind
  have h2:aA (fun j=>g j (m-j)) (m+1)=aA (fun j=>g j (m-j)) m+g m (m-m):=rfl;show aA (fun j=>aA (g j) (m+1-j)) m+aA (g m) (m+1-m)=aA (fun s=>aA (fun j=>g j (s-j)) (s+1)) m+aA (fun j=>g j (m-j)) (m+1);rw[e1,rE,h1,h2,ih,Nat.sub_self]
  grind
theorem rG{f:Nat->Rat}(h:∀ i,0<=f i){m k:Nat}(hk:m<=k):aA f m<=aA f k:=by
 induction k with
 | zero =>
  have:m=0:=by omega
  rw[this];exact Rat.le_refl
 | succ k ih =>
  by_cases hm:m=k+1
  .rw [hm];exact Rat.le_refl
  .have:=ih (by omega)
   have:=h k;rw[aA];grind
theorem pH(f:Nat->Rat)(m:Nat):∀ d,aA f (m+d)=aA f m+aA (fun i=>f (m+i)) d
 | 0=>by simp only[aA,Nat.add_zero];grind
 | d+1=>by
  show aA f (m+d)+f (m+d)=_;rw[pH f m d,aA];grind
theorem sR(c:Rat)(j:Nat):eQ c (j+1)*((j+1:Nat):Rat)=c*eQ c j:=by
 have h:c/((j+1:Nat):Rat)*((j+1:Nat):Rat)=c:=Rat.div_mul_cancel (by have:=mD j;grind);simp only[eQ];grind
theorem sA(a b:Rat):∀ s,aA (fun j=>eQ b j*eQ a (s-j)) (s+1)=eQ (a+b) s
 | 0=>by
  show 0+eQ b 0*eQ a 0=1;simp only[eQ];grind
 | s+1=>by
  have ih:=sA a b s;have hp:=mD s;have key:aA (fun j=>eQ b j*eQ a (s+1-j)) (s+2)*((s+1:Nat):Rat)=(a+b)*eQ (a+b) s:=by
   have e0:aA (fun j=>eQ b j*eQ a (s+1-j)) (s+2)*((s+1:Nat):Rat)=aA (fun j=>(j:Rat)*(eQ b j*eQ a (s+1-j))+eQ b j*(((s+1-j:Nat):Rat)*eQ a (s+1-j))) (s+2):=by
    rw[<-pG];refine fc _ fun j hj=>?_
    have:((s+1:Nat):Rat)=(j:Rat)+((s+1-j:Nat):Rat):=by rw[<-Rat.natCast_add];congr 1;omega
    rw[this];grind
   rw[e0,rE];have e1:aA (fun j=>(j:Rat)*(eQ b j*eQ a (s+1-j))) (s+2)=b*eQ (a+b) s:=by
    rw[Ga,<-ih,<-mT];have z:(((0:Nat):Rat))=0:=rfl;rw[z,Rat.zero_mul,Rat.zero_add];refine fc _ fun j hj=>?_
    have h1:=sR b j;rw[show s+1-(j+1)=s-j by omega]
    grind
   have e2:aA (fun j=>eQ b j*(((s+1-j:Nat):Rat)*eQ a (s+1-j))) (s+2)=a*eQ (a+b) s:=by
    rw[show s+2=(s+1)+1 by omega,aA,Nat.sub_self,<-ih,<-mT];have z:(((0:Nat):Rat))=0:=rfl;rw[z,Rat.zero_mul,Rat.mul_zero,Rat.add_zero];refine fc _ fun j hj=>?_
    have h1:=sR a (s-j);rw[show s+1-j=s-j+1 by omega]
    grind
   rw[e1,e2];grind
  have h2:=sR (a+b) s;have h3:aA (fun j=>eQ b j*eQ a (s+1-j)) (s+2)*((s+1:Nat):Rat)=eQ (a+b) (s+1)*((s+1:Nat):Rat):=by rw[key,h2]
  exact Rat.le_antisymm (Rat.le_of_mul_le_mul_right (by rw[h3];exact Rat.le_refl) hp) (Rat.le_of_mul_le_mul_right (by rw[h3];exact Rat.le_refl) hp)
theorem qm(c:Rat):∀ j,aE (eQ c j)=eQ (aE c) j
 | 0=>by simp only[eQ];decide
 | j+1=>by
  simp only[eQ];rw[ko,qm c j];congr 1;rw[Rat.div_def,Rat.div_def,ko];congr 1;have:=Rat.inv_pos.2 (mD j);unfold aE;rw[if_pos (Rat.le_of_lt this)]
def iZ(v:Rat):Nat->Rat
 | 0=>1
 | j+1=>iZ v j*v
theorem Et(v:Rat)(i:Nat):∀ j,iZ v (i+j)=iZ v i*iZ v j
 | 0=>by simp only[iZ,Nat.add_zero];grind
 | j+1=>by
  show iZ v (i+j)*v=_;rw[Et v i j,iZ];grind
theorem Eu{v:Rat}(h:0<=v):∀ j,0<=iZ v j
 | 0=>by simp only[iZ];decide
 | j+1=>Rat.mul_nonneg (Eu h j) h
theorem wb(c v:Rat):∀ j,eQ (c*v) j=eQ c j*iZ v j
 | 0=>by simp only[eQ,iZ];grind
 | j+1=>by
  simp only[eQ,iZ];rw[wb c v j];simp only[Rat.div_def];grind
theorem Am(q:Rat):∃ n:Nat,q<=(n:Rat):=by
 refine⟨q.ceil.toNat,?_⟩;have h1:q<=(q.ceil:Rat):=Rat.le_ceil;have h2:((q.ceil:Int):Rat)<=((q.ceil.toNat:Nat):Rat):=by
  rw[<-Rat.intCast_natCast,Rat.intCast_le_intCast];omega
 exact Rat.le_trans h1 h2
theorem y9{z:Rat}{J:Nat}(hz:0<=z)(hJ:z*2<=(J:Rat)){m:Nat}(hm:J<=m):eQ z (m+1)*2<=eQ z m:=by
 have h0:=jo hz m;have h1:=sR z m;have hp:=mD m;have hJm:z*2<=((m+1:Nat):Rat):=Rat.le_trans hJ (Rat.natCast_le_natCast.2 (by omega));apply Rat.le_of_mul_le_mul_right (c:=((m+1:Nat):Rat)) _ hp;have h2:=Rat.mul_le_mul_of_nonneg_left hJm h0
 grind
theorem ze{z:Rat}{J:Nat}(hz:0<=z)(hJ:z*2<=(J:Rat)){m:Nat}(hm:J<=m):∀ d,aA (fun i=>eQ z (m+i)) d+eQ z (m+d)*2<=eQ z m*2
 | 0=>by simp only[aA,Nat.add_zero];grind
 | d+1=>by
  have ih:=ze hz hJ hm d;have h1:=y9 hz hJ (show J<=m+d by omega);rw[aA,show m+(d+1)=m+d+1 by omega]
  grind
theorem Gh{z:Rat}{J:Nat}(hz:0<=z)(hJ:z*2<=(J:Rat)):∀ r:Nat,eQ z (J+r)*((2^r:Nat):Rat)<=eQ z J
 | 0=>by simp
 | r+1=>by
  have ih:=Gh hz hJ r;have h1:=y9 hz hJ (show J<=J+r by omega);have hp:(0:Rat)<=((2^r:Nat):Rat):=Rat.natCast_nonneg;have h2:=Rat.mul_le_mul_of_nonneg_right h1 hp;rw[show(2^(r+1):Nat)=2^r*2 from Nat.pow_succ _ _,Rat.natCast_mul,show J+(r+1)=J+r+1 by omega];have e:((2:Nat):Rat)=2:=rfl;rw[e];grind
theorem Gi{z ε:Rat}(hz:0<=z)(hε:0<ε):∃ m0,∀ m,m0<=m->∀ d,aA (fun i=>eQ z (m+i)) d<=ε:=by
 obtain⟨J,hJ⟩:=Am (z*2);obtain⟨r,hr⟩:=Am (eQ z J*2/ε);refine⟨J+r,fun m hm d=>?_⟩;obtain⟨t,rfl⟩:∃ t,m=J+t:=⟨m-J,by omega⟩
 have h1:=ze hz hJ (show J<=J+t by omega) d;have h2:=Gh hz hJ t;have h3:=jo hz (J+t+d);have h4:=jo hz (J+t);have hrt:(r:Rat)<=((2^t:Nat):Rat):=Rat.natCast_le_natCast.2 (Nat.le_of_lt (Nat.lt_of_le_of_lt (show r<=t by omega) Nat.lt_two_pow_self));have h5:eQ z J*2<=ε*((2^t:Nat):Rat):=by
  have h6:eQ z J*2/ε*ε=eQ z J*2:=Rat.div_mul_cancel (by grind);have h7:=Rat.mul_le_mul_of_nonneg_right (Rat.le_trans hr hrt) (Rat.le_of_lt hε)
  grind
 have hp:(0:Rat)<((2^t:Nat):Rat):=Rat.natCast_pos.2 (Nat.pow_pos (by decide));have h8:eQ z (J+t)*2<=ε:=by
  apply Rat.le_of_mul_le_mul_right (c:=((2^t:Nat):Rat)) _ hp
  grind
 grind
def MP(n:Nat)(M:QM):Nat->QM
 | 0=>kD
 | j+1=>fh n (MP n M j) M
section
variable {n:Nat} {M:QM}
theorem vd(t:Rat):∀ j i l,TQ n M t j i l=eQ t j*MP n M j i l
 | 0,i,l=>by simp only[TQ,eQ,MP];grind
 | j+1,i,l=>by
  show t/((j+1:Nat):Rat)*aA (fun q=>TQ n M t j i q*M q l) n=eQ t j*(t/((j+1:Nat):Rat))*aA (fun q=>MP n M j i q*M q l) n;rw[fc n fun q _=>show TQ n M t j i q*M q l=eQ t j*(MP n M j i q*M q l)by rw[vd t j i q];grind,mT]
  grind
theorem pO(t:Rat)(i l:Nat):∀ N,SQ n M t N i l=aA (fun j=>eQ t j*MP n M j i l) (N+1)
 | 0=>by simp only[SQ,aA,eQ,MP];grind
 | N+1=>by
  show SQ n M t N i l+TQ n M t (N+1) i l=_;rw[pO t i l N,vd];rfl
theorem OX(A:QM)(i:Nat){l:Nat}(hl:l<n):fh n A kD i l=A i l:=by
 have:∀ m,aA (fun q=>A i q*kD q l) m=if l<m then A i l else 0:=by
  intro m
  induction m with
  | zero=>simp[aA]
  | succ m ih =>
   rw[aA,ih];unfold kD;by_cases h1:l<m
   .rw [if_pos h1,if_neg (show ¬m=l by omega),if_pos (show l<m+1 by omega)];grind
   .by_cases h2:m=l
    .subst h2;rw[if_neg h1,if_pos rfl,if_pos (show m<m+1 by omega)];grind
    .rw [if_neg h1,if_neg h2,if_neg (show ¬l<m+1 by omega)];grind
 unfold fh;rw[this,if_pos hl]
theorem OW(A B C:QM)(i l:Nat):fh n A (fh n B C) i l=fh n (fh n A B) C i l:=by
 unfold fh;have e1:∀ q,A i q*aA (fun r=>B q r*C r l) n=aA (fun r=>A i q*(B q r*C r l)) n:=fun q=>(mT _ _ n).symm
 have e2:∀ r,aA (fun q=>A i q*B q r) n*C r l=aA (fun q=>A i q*B q r*C r l) n:=fun r=>(pG _ _ n).symm
 rw[fc n fun q _=>e1 q,fc (f:=fun q=>aA (fun q_1=>A i q_1*B q_1 q) n*C q l) n fun r _=>e2 r,rF];exact fc n fun r _=>fc n fun q _=>by grind
theorem zS(j:Nat):∀ k i l,l<n->fh n (MP n M j) (MP n M k) i l=MP n M (j+k) i l
 | 0,i,l,hl=>OX _ i hl
 | k+1,i,l,hl=>by
  show fh n (MP n M j) (fh n (MP n M k) M) i l=fh n (MP n M (j+k)) M i l;rw[OW];exact fc n fun q hq=>by rw[zS j k i q hq]
theorem zT{v:Rat}(hv:0<=v)(h:lZ n M v):∀ j,lZ n (MP n M j) (iZ v j)
 | 0=>fun i _=>(Sn n i).1
 | j+1=>Rz (Eu hv j) hv (zT hv h j) h
theorem Rv(n:Nat)(M:QM):∃ v,0<=v/\lZ n M v:=by
 refine⟨aA (fun i=>aA (fun l=>aE (M i l)) n) n,oc n fun i _=>oc n fun l _=>(cI _).1,fun i hi=>?_⟩;have:∀ m,i<m->aA (fun l=>aE (M i l)) n<=aA (fun i=>aA (fun l=>aE (M i l)) n) m:=by
  intro m hm
  induction m with
  | zero=>omega
  | succ m ih =>
   rw[aA];have h0:0<=aA (fun l=>aE (M m l)) n:=oc n fun l _=>(cI _).1
   have h1:0<=aA (fun i=>aA (fun l=>aE (M i l)) n) m:=oc m fun i _=>oc n fun l _=>(cI _).1
   by_cases hq:i=m
   .subst hq;grind
   .have:=ih (by omega);grind
 exact this n hi
theorem PQ(a b:Rat)(N:Nat)(i:Nat){l:Nat}(hl:l<n):fh n (SQ n M b N) (SQ n M a N) i l=aA (fun j=>aA (fun k=>eQ b j*eQ a k*MP n M (j+k) i l) (N+1)) (N+1):=by
 unfold fh;have e1:∀ q,SQ n M b N i q*SQ n M a N q l=aA (fun j=>aA (fun k=>eQ b j*eQ a k*(MP n M j i q*MP n M k q l)) (N+1)) (N+1):=by
  intro q;rw[pO,pO,<-pG];refine fc _ fun j _=>?_
  rw[<-mT];exact fc _ fun k _=>by grind
 rw[fc n fun q _=>e1 q,rF];refine fc _ fun j _=>?_
 rw[rF];refine fc _ fun k _=>?_
 rw[<-zS j k i l hl,mT];rfl
theorem S1(a b:Rat)(N:Nat)(i l:Nat):aA (fun j=>aA (fun k=>eQ b j*eQ a k*MP n M (j+k) i l) (N+1-j)) (N+1)=SQ n M (a+b) N i l:=by
 rw[uG (fun j k=>eQ b j*eQ a k*MP n M (j+k) i l),pO];refine fc _ fun s _=>?_
 rw[<-sA,<-pG];exact fc _ fun j hj=>by rw[show j+(s-j)=s by omega]
theorem FZ(g:Nat->Nat->Rat)(m:Nat):aA (fun j=>aA (g j) m) m=aA (fun j=>aA (g j) (m-j)) m+aA (fun j=>aA (fun k=>g j (m-j+k)) j) m:=by
 rw[<-rE];refine fc _ fun j hj=>?_
 rw[<-pH,show m-j+j=m by omega]
theorem M7{v:Rat}(hv:0<=v)(h:lZ n M v)(a b:Rat)(N:Nat){i l:Nat}(hi:i<n)(hl:l<n) :
  aE (fh n (SQ n M b N) (SQ n M a N) i l-SQ n M (a+b) N i l)<=aA (fun s=>eQ (aE a*v+aE b*v) (N+1+s)) (N+1):=by
 have hx:0<=aE a*v:=Rat.mul_nonneg (cI a).1 hv;have hy:0<=aE b*v:=Rat.mul_nonneg (cI b).1 hv;have e1:fh n (SQ n M b N) (SQ n M a N) i l=SQ n M (a+b) N i l+aA (fun j=>aA (fun k=>eQ b j*eQ a (N+1-j+k)*MP n M (j+(N+1-j+k)) i l) j) (N+1):=by
  have:=FZ (fun j k=>eQ b j*eQ a k*MP n M (j+k) i l) (N+1);rw[S1,<-PQ a b N i hl]at this;exact this
 have e2:fh n (SQ n M b N) (SQ n M a N) i l-SQ n M (a+b) N i l=aA (fun j=>aA (fun k=>eQ b j*eQ a (N+1-j+k)*MP n M (j+(N+1-j+k)) i l) j) (N+1):=by grind
 rw[e2];have e3:aE (aA (fun j=>aA (fun k=>eQ b j*eQ a (N+1-j+k)*MP n M (j+(N+1-j+k)) i l) j) (N+1))<=aA (fun j=>aA (fun k=>eQ (aE b*v) j*eQ (aE a*v) (N+1-j+k)) j) (N+1):=by
  refine Rat.le_trans (oo _ _) (nZ _ fun j _=>Rat.le_trans (oo _ _) (nZ _ fun k _=>?_));rw[ko,ko,qm,qm,wb,wb];have hr:=Ru (zT hv h (j+(N+1-j+k))) hi hl;rw[Et]at hr;have h1:=jo (cI b).1 j;have h2:=jo (cI a).1 (N+1-j+k);have h3:=Rat.mul_le_mul_of_nonneg_left hr (Rat.mul_nonneg h1 h2)
  grind
 refine Rat.le_trans e3 ?_;have q1:aA (fun j=>aA (fun k=>eQ (aE b*v) j*eQ (aE a*v) k) (N+1)) (N+1)=aA (fun j=>aA (fun k=>eQ (aE b*v) j*eQ (aE a*v) k) (N+1-j)) (N+1)+aA (fun j=>aA (fun k=>eQ (aE b*v) j*eQ (aE a*v) (N+1-j+k)) j) (N+1) :=
  FZ (fun j k=>eQ (aE b*v) j*eQ (aE a*v) k) (N+1)
 have q2:aA (fun j=>aA (fun k=>eQ (aE b*v) j*eQ (aE a*v) k) (N+1-j)) (N+1)=aA (fun s=>eQ (aE a*v+aE b*v) s) (N+1):=by
  rw[uG (fun j k=>eQ (aE b*v) j*eQ (aE a*v) k)];exact fc _ fun s _=>sA _ _ s
 have G0:∀ j k,0<=eQ (aE b*v) j*eQ (aE a*v) k:=fun j k=>Rat.mul_nonneg (jo hy j) (jo hx k)
 have q3:aA (fun j=>aA (fun k=>eQ (aE b*v) j*eQ (aE a*v) k) (N+1)) (N+1)<=aA (fun s=>eQ (aE a*v+aE b*v) s) (N+1+(N+1)):=by
  rw[<-fc (f:=fun s=>aA (fun j=>eQ (aE b*v) j*eQ (aE a*v) (s-j)) (s+1)) _ fun s _=>sA _ _ s,<-uG (fun j k=>eQ (aE b*v) j*eQ (aE a*v) k)];refine Rat.le_trans (nZ _ fun j hj=>rG (fun k=>G0 j k) (show N+1<=N+1+(N+1)-j by omega)) ?_;exact rG (fun j=>oc _ fun k _=>G0 j k) (by omega)
 rw[pH (fun s=>eQ (aE a*v+aE b*v) s) (N+1) (N+1),q1,q2]at q3;have cancel:∀ A B C:Rat,A+B<=A+C->B<=C:=by intro A B C h;grind
 exact cancel _ _ _ q3
theorem M8(n:Nat)(M:QM)(a b:Rat){ε:Rat}(hε:0<ε):∃ N0,∀ N,N0<=N->∀ i l,i<n->l<n->aE (fh n (SQ n M b N) (SQ n M a N) i l-SQ n M (a+b) N i l)<=ε:=by
 obtain⟨v,hv,h⟩:=Rv n M;have hz:0<=aE a*v+aE b*v:=by
  have hx:0<=aE a*v:=Rat.mul_nonneg (cI a).1 hv;have hy:0<=aE b*v:=Rat.mul_nonneg (cI b).1 hv
  grind
 obtain⟨m0,h0⟩:=Gi hz hε;exact⟨m0,fun N hN i l hi hl=>Rat.le_trans (M7 hv h a b N hi hl) (h0 (N+1) (by omega) (N+1))⟩
theorem Hd(N:Nat)(i l:Nat):SQ n M 0 N i l=kD i l:=by
 induction N with
 | zero=>rfl
 | succ N ih =>
  show SQ n M 0 N i l+TQ n M 0 (N+1) i l=_;rw[ih,vd];simp only[eQ,Rat.div_def];grind
end
open Go.RowKit Fp Pu
def dW(f:Nat->Rat)(X:Iv):Prop:=∀ ε,0<ε->∃ N0,∀ N,N0<=N->∃ r,X.has r/\aE (f N-r)<=ε
theorem dW.xK{f:Nat->Rat}{X:Iv}{k:Nat}(h:∀ N,k<=N->X.has (f N)):dW f X:=fun ε hε =>
 ⟨k,fun N hN=>⟨f N,h N hN,by rw[Rat.sub_self,Ac];exact Rat.le_of_lt hε⟩⟩
theorem dW.all{f:Nat->Rat}{X:Iv}(h:X.all=true):dW f X:=dW.xK (k:=0) fun _ _=>.inl h
theorem dW.shift{f g:Nat->Rat}{X:Iv}(h:dW f X)(k:∀ ε,0<ε->∃ N0,∀ N,N0<=N->aE (g N-f N)<=ε):dW g X:=fun ε hε=>by
 obtain⟨N1,h1⟩:=h (ε/2) (by grind);obtain⟨N2,h2⟩:=k (ε/2) (by grind);refine⟨max N1 N2,fun N hN=>?_⟩;obtain⟨r,hr,hd⟩:=h1 N (by omega);have hg:=h2 N (by omega);refine⟨r,hr,?_⟩;have:=sd (g N-f N) (f N-r);rw[show g N-f N+(f N-r)=g N-r by grind]at this
 grind
theorem dW.sq{f:Nat->Rat}{X:Iv}(hx:X.Valid)(h:dW f X){p:Nat}(hp:1<=p)(hp2:p<=4096):dW (fun N=>f N*f N) (aV X X p):=by
 cases xa:X.all
 .intro ε hε
  obtain⟨B,hB⟩:∃ B,B=aE X.lo.q+aE X.hi.q+1:=⟨_,rfl⟩
  have a0:=cI X.lo.q;have b0:=cI X.hi.q;have hB1:1<=B:=by grind
  have hBp:0<2*B:=by grind
  obtain⟨δ,hδ⟩:∃ δ,δ=min 1 (ε/(2*B)):=⟨_,rfl⟩
  have hεB:0<ε/(2*B):=by rw[Rat.div_def];exact Rat.mul_pos hε (Rat.inv_pos.2 hBp)
  have hδ0:0<δ:=by rw[hδ];grind
  have hδ1:δ<=1:=by rw[hδ];grind
  have hδ2:δ*(2*B)<=ε:=by
   have h1:δ<=ε/(2*B):=by rw[hδ];grind
   have h2:=Rat.mul_le_mul_of_nonneg_right h1 (Rat.le_of_lt hBp);rwa[Rat.div_mul_cancel (by grind)]at h2
  obtain⟨N0,h0⟩:=h δ hδ0;refine⟨N0,fun N hN=>?_⟩;obtain⟨r,hr,hd⟩:=h0 N hN;refine⟨r*r,tG hx hx hp hp2 hr hr,?_⟩;obtain⟨r1,r2⟩:=hr.ends xa;rw[show f N*f N-r*r=(f N-r)*(f N+r)by grind,ko];have hs:aE (f N+r)<=2*B:=by
   obtain⟨_,c2,c3,_⟩:=cI (f N-r);exact jM (by grind) (by grind)
  have h3:=Rat.mul_le_mul_of_nonneg_left hs (cI (f N-r)).1;have h4:=Rat.mul_le_mul_of_nonneg_right hd (Rat.le_of_lt hBp)
  grind
 .exact dW.all (by rw[qK p (.inl xa)];rfl)
def EQ(c:Rat)(N:Nat):Rat:=aA (eQ c) (N+1)
theorem Pp(j:Nat):MP 1 (fun _ _=>1) j 0 0=1:=by
 induction j with
 | zero=>rfl
 | succ j ih =>
  show aA (fun q=>MP 1 (fun _ _=>1) j 0 q*1) 1=1;simp only[aA];rw[ih];grind
theorem rY(c:Rat)(N:Nat):SQ 1 (fun _ _=>1) c N 0 0=EQ c N:=by
 rw[pO];exact fc _ fun j _=>by rw[Pp];grind
theorem uZ(a b:Rat){ε:Rat}(hε:0<ε):∃ N0,∀ N,N0<=N->aE (EQ (a+b) N-EQ a N*EQ b N)<=ε:=by
 obtain⟨N0,h0⟩:=M8 1 (fun _ _=>1) a b hε;refine⟨N0,fun N hN=>?_⟩;have:=h0 N hN 0 0 (by decide) (by decide);rw[show fh 1 (SQ 1 (fun _ _=>1) b N) (SQ 1 (fun _ _=>1) a N) 0 0=EQ a N*EQ b N by
  show aA (fun q=>SQ 1 (fun _ _=>1) b N 0 q*SQ 1 (fun _ _=>1) a N q 0) 1=_;simp only[aA];rw[rY,rY];grind,rY]at this
 obtain⟨_,a2,a3,_⟩:=cI (EQ a N*EQ b N-EQ (a+b) N);exact jM (by grind) (by grind)
theorem G4(N:Nat):EQ 0 N=1:=by
 rw[<-rY,Hd];rfl
theorem Aq{x:Iv}{r s:Rat}(hx:x.Valid)(h:x.has r)(hs:aE s<=aE r):(fH x).has s:=by
 unfold fH;cases xa:x.all
 .obtain ⟨h1,h2⟩:=h.ends xa
  obtain⟨m1,m2,_⟩:=nG hx.q;obtain⟨_,a2,a3,a4⟩:=cI r;obtain⟨_,b2,b3,_⟩:=cI s;have hr:aE r<=(di x).q:=by grind
  refine .inr ⟨?_,?_⟩
  .show (aC (di x)).q<=s
   rw[fD];grind
  .show s<=(di x).q
   grind
 .rw [if_pos rfl];exact .inl xa
theorem pM{a b:Int}(h:a<=b):P2 a<=P2 b:=by
 rw[pN h];have h1:(1:Rat)<=((2^(b-a).toNat:Nat):Rat):=by
  have:=Rat.natCast_le_natCast.2 (Nat.one_le_two_pow (n:=(b-a).toNat));exact this
 have:=Rat.mul_le_mul_of_nonneg_right h1 (Rat.le_of_lt (dt a))
 grind
open Go.RowKit Fp Pu
theorem two{i:Nat}(h:i<2):i=0\/i=1:=by omega
def iw(d:Rat)(f g:Nat->Rat):Prop:=∃ N0,∀ N,N0<=N->aE (f N-g N)<=d
theorem iw.mono{d e:Rat}{f g:Nat->Rat}(h:iw d f g)(k:d<=e):iw e f g:=by
 obtain⟨N0,h⟩:=h;exact⟨N0,fun N hN=>Rat.le_trans (h N hN) k⟩
open Go.RowKit Fp Pu
theorem iw.add{d e:Rat}{f g f' g':Nat->Rat}(h:iw d f g)(k:iw e f' g'):iw (d+e) (fun N=>f N+f' N) (fun N=>g N+g' N):=by
 obtain⟨N1,h1⟩:=h;obtain⟨N2,h2⟩:=k;refine⟨max N1 N2,fun N hN=>?_⟩;have:=sd (f N-g N) (f' N-g' N);have a:=h1 N (by omega);have b:=h2 N (by omega);rw[show f N+f' N-(g N+g' N)=f N-g N+(f' N-g' N)by grind]
 grind
theorem iw.trans{d e:Rat}{f g k:Nat->Rat}(h:iw d f g)(h':iw e g k):iw (d+e) f k:=by
 obtain⟨N1,h1⟩:=h;obtain⟨N2,h2⟩:=h';refine⟨max N1 N2,fun N hN=>?_⟩;have:=sd (f N-g N) (g N-k N);have a:=h1 N (by omega);have b:=h2 N (by omega);rw[show f N-k N=f N-g N+(g N-k N)by grind]
 grind
theorem iw.neg{d:Rat}{f g:Nat->Rat}(h:iw d f g):iw d (fun N=>-f N) (fun N=>-g N):=by
 obtain⟨N1,h1⟩:=h;refine⟨N1,fun N hN=>?_⟩;obtain⟨_,a2,a3,_⟩:=cI (f N-g N);have:=h1 N hN;exact jM (by grind) (by grind)
open Go.RowKit Fp Pu
def G5:Dy:=⟨false,1014047155841371404857783918912611814895143950022408150448898879701903863171748812343190420115852101928445847465915947005,-398⟩
def G6:Dy:=⟨false,2028094311682742809715567837825223629790287900044816300897797759403807726343497624686380840231704203856891694931831894109,-399⟩
def HF:Iv:=⟨G5,G6,false⟩
theorem after{N:Nat}(h:100<=N):∃ d,N=100+d:=⟨N-100,by omega⟩
def zq(k:Int):Rat×Rat:=if k%4=0 then(1,0)else if k%4=1 then(0,1)else if k%4=2 then(-1,0)else(0,-1)
open Go.RowKit Fp Pu
def b7(r:Iv)(p:Nat):Nat->Iv
 | 0=>aN 1
 | j+1=>bT (aV (b7 r p j) r p) (aN ((j+1:Nat):Int)) p
def yO(r:Iv)(p j:Nat):Iv:=if 2<=j%4 then iI (b7 r p j)else b7 r p j
def uz(r:Iv)(p:Nat):Nat->Iv
 | 0=>aN 0
 | j+1=>if(j+1)%2=1 then bj (uz r p j) (yO r p (j+1)) p else uz r p j
theorem fC(n:Int):(eO n).q=P2 n:=by unfold eO;rw[fU];simp
theorem jI{r:Iv}{p:Nat}(_hr:r.Valid)(hp1:8<=p)(hp2:p<=512):∀ j,(b7 r p j).Valid
 | 0=>nL 1 (by decide)
 | j+1=>jP _ _ (by omega) (by omega)
theorem RT{r:Iv}{p:Nat}(hr:r.Valid)(hp1:8<=p)(hp2:p<=512)(j:Nat):(yO r p j).Valid:=by
 unfold yO;split
 .exact tI (jI hr hp1 hp2 j)
 .exact jI hr hp1 hp2 j
theorem FF{r:Iv}{p:Nat}(hr:r.Valid)(hp1:8<=p)(hp2:p<=512):∀ j,(uz r p j).Valid
 | 0=>nL 0 (by decide)
 | j+1=>by
  unfold uz;split
  .exact gO (FF hr hp1 hp2 j) (RT hr hp1 hp2 _) (by omega) (by omega)
  .exact FF hr hp1 hp2 j
theorem yP{r:Iv}{p:Nat}(hr:r.Valid)(hp1:8<=p)(hp2:p<=512){ρ:Rat}(h:r.has ρ):∀ j,j<4294967296->(b7 r p j).has (eQ ρ j)
 | 0,_=>lr 1
 | j+1,hj=>by
  have e:eQ ρ (j+1)=eQ ρ j*ρ/((j+1:Nat):Rat):=by simp only[eQ,Rat.div_def];grind
  rw[e];exact sL (iG _ _ (by omega) (by omega)) (qT (j+1) hj) (by omega) (by omega) (tG (jI hr hp1 hp2 j) hr (by omega) (by omega) (yP hr hp1 hp2 h j (by omega)) h) (Eb (j+1))
theorem FG{r:Iv}{p:Nat}:∀ {j d:Nat},(b7 r p (j+d)).all=false->(b7 r p j).all=false
 | _,0,h=>h
 | j,d+1,h=>by
  apply FG (d:=d);cases ha:(b7 r p (j+d)).all
  .rfl
  .exfalso
   have:b7 r p (j+(d+1))=aj:=by
    show bT (aV (b7 r p (j+d)) r p) _ p=_;rw[qK p (.inl ha),qj p (.inl rfl)]
   rw[this]at h;cases h
open Go.RowKit Fp Pu
def eE(n:Int):Iv:=⟨aC (eO n),eO n,false⟩
theorem oC{n:Int}{r:Rat}:(eE n).has r ↔ -P2 n<=r/\r<=P2 n:=by
 unfold Iv.has eE;simp only[Bool.false_eq_true,false_or];rw[fD,fC]
theorem lX{p:Nat}(hp:1<=p){n:Int}(h1:-1000<=n)(h2:n<=1000):G p (P2 n):=.inl ⟨1,n,by rw[kq];exact hp,by omega,by rw[kq];omega,by simp⟩
theorem pW{p:Nat}{S:Rat->Prop}{X:Iv}(h:lV p S X)(hp:1<=p){n:Int}(h1:-1000<=n)(h2:n<=1000)(hs:∀ r,S r -> -P2 n<=r/\r<=P2 n):Sub X (eE n):=by
 obtain⟨a,b,c⟩:=h.least _ _ (lX hp h1 h2).neg (lX hp h1 h2) hs;refine .inr ⟨a,?_,?_⟩
 .show (aC (eO n)).q<=_
  rw[fD,fC];exact b
 .show _<=(eO n).q
  rw[fC];exact c
theorem Ad{a b u v:Rat}(h1:-u<=a)(h2:a<=u)(h3:-v<=b)(h4:b<=v):-(u*v)<=a*b/\a*b<=u*v:=by
 have ha:aE a<=u:=jM h2 (by grind);have hb:aE b<=v:=jM h4 (by grind);have hm:=ko a b;have h0:=(cI b).1;have hu:0<=u:=Rat.le_trans (cI a).1 ha;have m1:=Rat.mul_le_mul_of_nonneg_right ha h0;have m2:=Rat.mul_le_mul_of_nonneg_left hb hu;obtain⟨_,c2,c3,_⟩:=cI (a*b);constructor<;>grind
theorem CL(j:Nat):P2 (-(j:Int))*P2 (-1)=P2 (-((j+1:Nat):Int)):=by
 rw[<-fG];congr 1;omega
theorem KD{a u:Rat}{n:Nat}(h1:-u<=a)(h2:a<=u):-u<=a/((n+1:Nat):Rat)/\a/((n+1:Nat):Rat)<=u:=by
 have hp:=mD n;have h1n:(1:Rat)<=((n+1:Nat):Rat):=by
  have:=Rat.natCast_le_natCast (a:=1) (b:=n+1);exact this.2 (by omega)
 have e:=Rat.div_mul_cancel (a:=a) (b:=((n+1:Nat):Rat)) (by grind);have hu:0<=u:=by grind
 generalize a/((n+1:Nat):Rat)=x at *
 generalize ((n+1:Nat):Rat)=c at *
 constructor
 .apply Rat.not_lt.1
  intro hlt;have m:=Rat.mul_lt_mul_of_pos_right hlt hp;have m2:=Rat.mul_le_mul_of_nonneg_left h1n hu
  grind
 .apply Rat.not_lt.1
  intro hlt;have m:=Rat.mul_lt_mul_of_pos_right hlt hp;have m2:=Rat.mul_le_mul_of_nonneg_left h1n hu
  grind
theorem FI{y:Iv}(hy:y.Valid)(h:Sub y (eE (-1))){p:Nat}(hp1:8<=p)(hp2:p<=512):∀ j,j<=900->Sub (b7 y p j) (eE (-(j:Int)))
 | 0,_=>by
  have e:(aN 1).lo.q=1/\(aN 1).hi.q=1/\(aN 1).all=false:=Ea 1;refine .inr ⟨e.2.2,?_,?_⟩
  .show (aC (eO _)).q<=_
   rw[fD,fC,show(b7 y p 0).lo.q=1 from e.1];decide +kernel
  .show _<=(eO _).q
   rw[fC,show(b7 y p 0).hi.q=1 from e.2.1];decide +kernel
 | j+1,hj=>by
  have ih:=FI hy h hp1 hp2 j (by omega);have vT:=jI hy hp1 hp2 j;obtain⟨ta,_⟩:=ih.known rfl;obtain⟨ya,_⟩:=h.known rfl;have B:=xt vT hy ta ya (show 1<=p by omega) (by omega);have s1:Sub (aV (b7 y p j) y p) (eE (-((j+1:Nat):Int))):=pW B (by omega) (by omega) (by omega) (by
   rintro r ⟨a,b,ha,hb,rfl⟩;obtain⟨a1,a2⟩:=oC.1 (ih.has ha);obtain⟨b1,b2⟩:=oC.1 (h.has hb);rw[<-CL];exact Ad a1 a2 b1 b2)
  have vm:(aV (b7 y p j) y p).Valid:=iG _ _ (by omega) (by omega);obtain⟨ma,_⟩:=s1.known rfl;have vn:=qT (j+1) (by omega);have hs:dw (aN ((j+1:Nat):Int))≠0:=by rw[Pn (by omega)];decide
  exact pW (sK vm vn ma hs (show 1<=p by omega) (by omega)) (by omega) (by omega) (by omega) (by
   rintro r ⟨a,b,ha,hb,rfl⟩;obtain⟨a1,a2⟩:=oC.1 (s1.has ha);obtain⟨b1,b2⟩:=hb.ends rfl;have e:=Ea (j+1);rw[e.1]at b1;rw[e.2.1]at b2;rw[show b=((j+1:Nat):Rat)from Rat.le_antisymm b2 b1];exact KD a1 a2)
def eh(x:Iv)(p:Nat):Bool:=x.all||(decide ((di x).m=0)||decide ((di x).top <= -(p:Int)))
theorem Gr{d:Dy}(hm:d.m≠0){n:Int}(h:aE d.q<=P2 n):d.top<=n+1:=by
 apply Classical.byContradiction;intro hlt;have hT:d.top=(ak d.m:Int)+d.e:=by unfold Dy.top;rw[if_neg hm]
 have hb:0<ak d.m:=jz.2 (by rw[Nat.pow_zero];omega);have h1:2^(ak d.m-1)<=d.m:=jz.1 (by omega);have h2:((2^(ak d.m-1):Nat):Rat)<=(d.m:Rat):=Rat.natCast_le_natCast.2 h1;have h3:=Rat.mul_le_mul_of_nonneg_right h2 (Rat.le_of_lt (dt d.e));rw[<-kN,<-fG,show((ak d.m-1:Nat):Int)+d.e=d.top-1 by rw[hT];omega]at h3;have h4:aE d.q=(d.m:Rat)*P2 d.e:=by
  have h0:0<=(d.m:Rat)*P2 d.e:=Rat.mul_nonneg Rat.natCast_nonneg (Rat.le_of_lt (dt _));rw[e9];unfold aE;cases d.neg
  .simp only[Bool.false_eq_true,if_false];rw[if_pos h0]
  .simp only[if_true]
   split<;>grind
 have h5:=pM (show n+1<=d.top-1 by omega);have h6:P2 (n+1)=P2 n*2:=by rw[fG];congr 1
 have:=dt n
 grind
theorem Gn{x:Iv}(hx:x.Valid){p:Nat}(h:Sub x (eE (-((p+1:Nat):Int)))):eh x p=true:=by
 unfold eh;cases ha:x.all
 .by_cases hm:(di x).m=0
  .rw [decide_eq_true hm];rfl
  .obtain ⟨_,k1,k2⟩:=h.known rfl
   obtain⟨m1,m2,m3⟩:=nG hx.q;replace k1:(aC (eO (-((p+1:Nat):Int)))).q<=x.lo.q:=k1;replace k2:x.hi.q<=(eO (-((p+1:Nat):Int))).q:=k2;rw[fD,fC]at k1;rw[fC]at k2;have hq:=hx.q;have hp0:=dt (-((p+1:Nat):Int));generalize hu:P2 (-((p+1:Nat):Int))=u at *
   have hle:aE (di x).q<=u:=jM (by rcases m3 with m3|m3<;>grind) (by rcases m3 with m3|m3<;>grind);have:=Gr hm (hu▸hle);rw[decide_eq_true (show(di x).top <= -(p:Int)by omega)];simp
 .rfl
theorem FH{y:Iv}(h:y.all=true)(p:Nat):b7 y p 1=aj:=by
 show bT (aV (aN 1) y p) _ p=_;rw[qK p (.inr h),qj p (.inl rfl)]
theorem LN{y:Iv}(hy:y.Valid)(h:y.all=true\/Sub y (eE (-1))){p:Nat}(hp1:8<=p)(hp2:p<=512):∃ N,1<=N/\N<=1000/\(∀ x,1<=x->x<N->eh (b7 y p x) p=false)/\eh (b7 y p N) p=true:=by
 have ex:∃ x,x<900/\decide (1<=x/\eh (b7 y p x) p=true)=true:=by
  rcases h with h|h
  .exact ⟨1,by omega,decide_eq_true ⟨by omega,by rw[FH h];rfl⟩⟩
  .exact ⟨p+1,by omega,decide_eq_true ⟨by omega,Gn (jI hy hp1 hp2 _) (FI hy h hp1 hp2 (p+1) (by omega))⟩⟩
 obtain⟨N,n1,n2,n3⟩:=gF (p:=fun x=>decide (1<=x/\eh (b7 y p x) p=true)) ex;have n2':=of_decide_eq_true n2;refine⟨N,n2'.1,by omega,fun x h1 h2=>?_,n2'.2⟩;have:=of_decide_eq_false (n3 x h2);cases hc:eh (b7 y p x) p
 .rfl
 .exact absurd ⟨h1,hc⟩ this
def iA(y:Iv)(p:Nat):Nat->Iv
 | 0=>aN 1
 | j+1=>bj (iA y p j) (b7 y p (j+1)) p
def kY(y:Iv)(p N:Nat):Iv:=bj (iA y p N) (fH (b7 y p N)) p
theorem oM{y:Iv}(hy:y.Valid){p:Nat}(hp1:8<=p)(hp2:p<=512):∀ j,(iA y p j).Valid
 | 0=>nL 1 (by decide)
 | j+1=>gO (oM hy hp1 hp2 j) (jI hy hp1 hp2 _) (by omega) (by omega)
theorem LM{y:Iv}(hy:y.Valid){p:Nat}(hp1:8<=p)(hp2:p<=512)(N:Nat):(kY y p N).Valid:=gO (oM hy hp1 hp2 N) (oA (jI hy hp1 hp2 N)) (by omega) (by omega)
open Go.RowKit Fp Pu
def cr(x:Iv)(p:Nat):Iv:=if x.all then aj else ck (bq x.lo p false) (bg x.lo p false) (bq x.hi p true) (bg x.hi p true)
def iO(a b:Iv):Iv:=if a.all||b.all then aj else⟨a.lo,b.hi,false⟩
theorem pA{x:Iv}(hx:x.Valid){p:Nat}(hp:1<=p)(hp2:p<=4096):(cr x p).Valid:=by
 unfold cr;cases xa:x.all
 .obtain ⟨c1,c2⟩:=hx.kU
  simp only[Bool.false_eq_true,if_false];unfold ck;split
  .exact cC
  .rename_i he
   have A:=jW c1 hp hp2;have B:=jX c2 hp hp2;refine .inr ⟨rfl,ef _ hp hp2 _,ef _ hp hp2 _,?_⟩;rw[eI];exact Rat.le_trans (A.1 (by omega)).2 (Rat.le_trans hx.q (B.1 (by omega)).2)
 .exact cC
theorem rz{x:Iv}(hx:x.Valid){p:Nat}(hp:1<=p)(hp2:p<=4096){r:Rat}(h:x.has r):(cr x p).has r:=by
 unfold cr;cases xa:x.all
 .obtain ⟨c1,c2⟩:=hx.kU
  obtain⟨h1,h2⟩:=h.ends xa;simp only[Bool.false_eq_true,if_false];unfold ck;split
  .exact .inl rfl
  .rename_i he
   have A:=jW c1 hp hp2;have B:=jX c2 hp hp2;exact .inr ⟨Rat.le_trans (A.1 (by omega)).2 h1,Rat.le_trans h2 (B.1 (by omega)).2⟩
 .exact .inl rfl
theorem Rs{x:Iv}(hx:x.Valid){p:Nat}(hp:1<=p)(hp2:p<=4096){n:Int}(h1:-1000<=n)(h2:n<=1000)(h:Sub x (eE n)):Sub (cr x p) (eE n):=by
 obtain⟨xa,k1,k2⟩:=h.known rfl;replace k1:(aC (eO n)).q<=x.lo.q:=k1;replace k2:x.hi.q<=(eO n).q:=k2;rw[fD,fC]at k1;rw[fC]at k2;obtain⟨c1,c2⟩:=hx.kU;have A:=(jW c1 hp hp2).2 _ (lX hp h1 h2).neg k1;have B:=(jX c2 hp hp2).2 _ (lX hp h1 h2) k2;unfold cr ck;rw[xa];simp only[Bool.false_eq_true,if_false];rw[if_neg (by omega)];refine .inr ⟨rfl,?_,?_⟩
 .show (aC (eO n)).q<=_
  rw[fD,fC];exact A.2
 .show _<=(eO n).q
  rw[fC];exact B.2
theorem Oo{f g:Nat->Rat}{A B:Iv}(hA:dW f A)(hB:dW g B)(h:∀ ε,0<ε->∃ N0,∀ N,N0<=N->f N<=g N+ε)(aa:A.all=false)(ba:B.all=false):A.lo.q<=B.hi.q:=by
 apply Rat.not_lt.1;intro hlt;obtain⟨ε,hε⟩:∃ ε,ε=(A.lo.q-B.hi.q)/4:=⟨_,rfl⟩
 have h0:0<ε:=by rw[hε];grind
 obtain⟨N1,h1⟩:=hA ε h0;obtain⟨N2,h2⟩:=hB ε h0;obtain⟨N3,h3⟩:=h ε h0;obtain⟨r,hr,hd⟩:=h1 (max N1 (max N2 N3)) (by omega);obtain⟨s,hs,he⟩:=h2 (max N1 (max N2 N3)) (by omega);have h4:=h3 (max N1 (max N2 N3)) (by omega);obtain⟨r1,r2⟩:=hr.ends aa;obtain⟨s1,s2⟩:=hs.ends ba;obtain⟨_,a2,a3,_⟩:=cI (f (max N1 (max N2 N3))-r);obtain⟨_,b2,b3,_⟩:=cI (g (max N1 (max N2 N3))-s)
 grind
theorem G3{c:Rat}(h:0<=c)(N:Nat):1<=EQ c N:=by
 have:=rG (f:=eQ c) (fun i=>jo h i) (show 1<=N+1 by omega);have e:aA (eQ c) 1=1:=by show 0+1=1;grind
 unfold EQ;rw[e]at this;exact this
theorem GZ(c:Rat){ε:Rat}(hε:0<ε):∃ N0,∀ N,N0<=N -> -ε<=EQ c N:=by
 obtain⟨N0,h0⟩:=uZ (c/2) (c/2) hε;rw[show c/2+c/2=c by grind]at h0;refine⟨N0,fun N hN=>?_⟩;have h:=h0 N hN;have hs:0<=EQ (c/2) N*EQ (c/2) N:=by
  by_cases k:0<=EQ (c/2) N
  .exact Rat.mul_nonneg k k
  .have:=Rat.mul_nonneg (show 0 <= -EQ (c/2) N by grind) (show 0 <= -EQ (c/2) N by grind)
   grind
 obtain⟨_,a2,a3,_⟩:=cI (EQ c N-EQ (c/2) N*EQ (c/2) N)
 grind
theorem GW{c:Rat}(h:0<=c):∃ M:Rat,0<M/\∀ N,EQ c N<=M:=by
 obtain⟨m0,h0⟩:=Gi h (show(0:Rat)<1 by decide);have hs:0<=aA (eQ c) m0:=by
  have:=rG (f:=eQ c) (fun i=>jo h i) (Nat.zero_le m0);exact this
 refine⟨aA (eQ c) m0+1,by grind,fun N=>?_⟩;unfold EQ;by_cases hN:m0<=N+1
 .obtain ⟨d,hd⟩:∃ d,N+1=m0+d:=⟨N+1-m0,by omega⟩
  rw[hd,pH];have:=h0 m0 (Nat.le_refl _) d
  grind
 .have:=rG (f:=eQ c) (fun i=>jo h i) (show N+1<=m0 by omega)
  grind
theorem GY{a b:Rat}(h:a<=b){ε:Rat}(hε:0<ε):∃ N0,∀ N,N0<=N->EQ a N<=EQ b N+ε:=by
 have hd:0<=b-a:=by grind
 obtain⟨N1,h1⟩:=uZ a (b-a) (show 0<ε/2 by grind);rw[show a+(b-a)=b by grind]at h1;obtain⟨M,hM0,hM⟩:∃ M:Rat,0<M/\∀ N,EQ (b-a) N<=M:=GW hd;obtain⟨N2,h2⟩:=GZ a (show 0<ε/(2*M)by rw[Rat.div_def];exact Rat.mul_pos hε (Rat.inv_pos.2 (by grind)));refine⟨max N1 N2,fun N hN=>?_⟩;have k1:=h1 N (by omega);have k2:=h2 N (by omega);have e:ε/(2*M)*M=ε/2:=by
  have:=Rat.div_mul_cancel (a:=ε) (b:=2*M) (by grind)
  grind
 have k3:=G3 hd N;have k4:=hM N;obtain⟨_,a2,a3,_⟩:=cI (EQ b N-EQ a N*EQ (b-a) N);generalize EQ a N=x at *
 generalize EQ (b-a) N=y at *
 generalize EQ b N=z at *
 generalize ε/(2*M)=δ at *
 have m1:=Rat.mul_nonneg (show 0<=x+δ by grind) (show 0<=y-1 by grind);have hδ:0<=δ:=by
  apply Rat.not_lt.1;intro hlt;have:=Rat.mul_lt_mul_of_pos_right hlt hM0
  grind
 have m2:=Rat.mul_le_mul_of_nonneg_left (show y-1<=M by grind) hδ
 grind
open Go.RowKit Fp Pu
theorem Cj{y:Iv}{r:Rat}(hy:y.Valid)(h:y.has r){p:Nat}(hp1:8<=p)(hp2:p<=512):∀ j,j<4294967296->(iA y p j).has (EQ r j)
 | 0,_=>by
  have:EQ r 0=1:=by unfold EQ;simp only[aA,eQ];grind
  rw[this];exact lr 1
 | j+1,hj=>mZ (oM hy hp1 hp2 j) (jI hy hp1 hp2 (j+1)) (by omega) (by omega) (Cj hy h hp1 hp2 j (by omega)) (yP hy hp1 hp2 h (j+1) hj)
theorem LJ{y:Iv}(h:y.all=true){p N:Nat}(hN:1<=N):(kY y p N).all=true:=by
 have ht:(b7 y p N).all=true:=by
  cases hc:(b7 y p N).all
  .obtain ⟨d,rfl⟩:∃ d,N=1+d:=⟨N-1,by omega⟩
   have:=FG hc;rw[FH h]at this;cases this
  .rfl
 unfold kY;rw[sf p (.inr (by unfold fH;rw[ht];simpa using ht))];rfl
theorem LK{y:Iv}{r:Rat}(hy:y.Valid)(h:y.has r)(hr:aE r*2<=1){p:Nat}(hp1:8<=p)(hp2:p<=512){N:Nat}(hN:1<=N)(hN2:N<=1000)(M:Nat)(hM:N<=M):(kY y p N).has (EQ r M):=by
 obtain⟨d,rfl⟩:∃ d,M=N+d:=⟨M-N,by omega⟩
 have e1:EQ r (N+d)=EQ r N+aA (fun i=>eQ r (N+1+i)) d:=by
  unfold EQ;rw[show N+d+1=N+1+d by omega,pH]
 have hz:=(cI r).1;have t:=ze hz (J:=1) (by exact hr) (show 1<=N+1 by omega) d;have p0:=jo hz (N+1+d);have b1:aE (aA (fun i=>eQ r (N+1+i)) d)<=aA (fun i=>eQ (aE r) (N+1+i)) d:=by
  have:=oo (fun i=>eQ r (N+1+i)) d;rwa[fc d fun i _=>qm r (N+1+i)]at this
 have e3:eQ (aE r) (N+1)*2<=eQ (aE r) N:=y9 hz (J:=1) (by exact hr) (show 1<=N by omega);rw[e1];refine mZ (oM hy hp1 hp2 N) (oA (jI hy hp1 hp2 N)) (by omega) (by omega) (Cj hy h hp1 hp2 N (by omega)) (Aq (jI hy hp1 hp2 N) (yP hy hp1 hp2 h N (by omega)) ?_);rw[qm];grind
theorem LL{y:Iv}{r:Rat}(hy:y.Valid)(h:y.has r)(hb:y.all=true\/Sub y (eE (-1))){p:Nat}(hp1:8<=p)(hp2:p<=512){N:Nat}(hN:1<=N)(hN2:N<=1000):dW (EQ r) (kY y p N):=by
 rcases hb with hb|hb
 .exact dW.all (LJ hb hN)
 .refine dW.xK (k:=N) fun M hM=>LK hy h ?_ hp1 hp2 hN hN2 M hM
  obtain⟨b1,b2⟩:=oC.1 (hb.has h);have e:P2 (-1)=1/2:=by decide +kernel
  rw[e]at b1 b2;have:=jM (x:=r) (b:=1/2) (by grind) (by grind)
  grind
def dV(x:Iv)(p:Nat):Iv:=if(bh x).all then aj else ck (bq (jU (bh x).lo (bh x).lo) p false) (bg (jU (bh x).lo (bh x).lo) p false) (bq (jU (bh x).hi (bh x).hi) p true) (bg (jU (bh x).hi (bh x).hi) p true)
theorem Ab{x:Iv}(xa:x.all=false):0<=(bh x).lo.q:=by
 unfold bh;rw[xa];show 0<=(dY x).q;unfold dY;split
 .rw [ik];exact Rat.le_refl
 .obtain ⟨_,_,m⟩:=nR (cE x.lo) (cE x.hi)
  rcases m with m|m<;>rw[m]
  .exact (lF x.lo).1
  .exact (lF x.hi).1
theorem me(x:Iv):(bh x).all=x.all:=by unfold bh;cases h:x.all<;>simp[h,aj]
theorem yW{x:Iv}(hx:x.Valid){p:Nat}(hp:1<=p)(hp2:p<=4096){r:Rat}(h:x.has r):(dV x p).has (r*r):=by
 unfold dV;rw[me];cases xa:x.all
 .simp only[Bool.false_eq_true,if_false]
  obtain⟨s,hs,h0,e⟩:∃ s,(bh x).has s/\0<=s/\r*r=s*s:=by
   by_cases hr:0<=r
   .exact ⟨r,r9 hx h (.inl ⟨rfl,hr⟩),hr,rfl⟩
   .exact ⟨-r,r9 hx h (.inr ⟨rfl,by grind⟩),by grind,by grind⟩
  have hl:=Ab xa;have ya:(bh x).all=false:=by rw[me];exact xa
  obtain⟨s1,s2⟩:=hs.ends ya;rw[e];unfold ck;split
  .exact .inl rfl
  .rename_i he
   have A:=jW (mi (bh x).lo (bh x).lo) hp hp2;have B:=jX (mi (bh x).hi (bh x).hi) hp hp2;rw[pr]at A B;have a1:=(A.1 (by omega)).2;have b1:=(B.1 (by omega)).2;refine .inr ⟨?_,?_⟩
   .have m1:=Rat.mul_le_mul_of_nonneg_right s1 hl
    have m2:=Rat.mul_le_mul_of_nonneg_left s1 h0;show _<=s*s;exact Rat.le_trans a1 (Rat.le_trans m1 (by rw[Rat.mul_comm s];rw[Rat.mul_comm (bh x).lo.q s] ;exact m2))
   .have m1:=Rat.mul_le_mul_of_nonneg_right s2 h0
    have m2:=Rat.mul_le_mul_of_nonneg_left s2 (Rat.le_trans h0 s2);exact Rat.le_trans (Rat.le_trans m1 m2) b1
 .exact .inl rfl
theorem uD{x:Iv}(hx:x.Valid){p:Nat}(hp:1<=p)(hp2:p<=4096):(dV x p).Valid:=by
 cases xa:x.all
 .have h1:=yW hx hp hp2 hx.my
  unfold dV at h1 ⊢;rw[me,xa]at h1 ⊢;simp only[Bool.false_eq_true,if_false]at h1 ⊢;unfold ck at h1 ⊢;split
  .exact cC
  .rename_i he
   rw[if_neg he]at h1;obtain⟨h2,h3⟩:=h1.ends rfl;refine .inr ⟨rfl,ef _ hp hp2 _,ef _ hp hp2 _,?_⟩;rw[eI];exact Rat.le_trans h2 h3
 .unfold dV
  rw[me,xa];exact cC
theorem dW.Sh{f:Nat->Rat}{X:Iv}(hx:X.Valid)(h:dW f X){p:Nat}(hp:1<=p)(hp2:p<=4096):dW (fun N=>f N*f N) (dV X p):=by
 cases xa:X.all
 .intro ε hε
  obtain⟨B,hB⟩:∃ B,B=aE X.lo.q+aE X.hi.q+1:=⟨_,rfl⟩
  have a0:=cI X.lo.q;have b0:=cI X.hi.q;have hB1:1<=B:=by grind
  have hBp:0<2*B:=by grind
  obtain⟨δ,hδ⟩:∃ δ,δ=min 1 (ε/(2*B)):=⟨_,rfl⟩
  have hεB:0<ε/(2*B):=by rw[Rat.div_def];exact Rat.mul_pos hε (Rat.inv_pos.2 hBp)
  have hδ0:0<δ:=by rw[hδ];grind
  have hδ1:δ<=1:=by rw[hδ];grind
  have hδ2:δ*(2*B)<=ε:=by
   have h1:δ<=ε/(2*B):=by rw[hδ];grind
   have h2:=Rat.mul_le_mul_of_nonneg_right h1 (Rat.le_of_lt hBp);rwa[Rat.div_mul_cancel (by grind)]at h2
  obtain⟨N0,h0⟩:=h δ hδ0;refine⟨N0,fun N hN=>?_⟩;obtain⟨r,hr,hd⟩:=h0 N hN;refine⟨r*r,yW hx hp hp2 hr,?_⟩;obtain⟨r1,r2⟩:=hr.ends xa;rw[show f N*f N-r*r=(f N-r)*(f N+r)by grind,ko];have hs:aE (f N+r)<=2*B:=by
   obtain⟨_,c2,c3,_⟩:=cI (f N-r);exact jM (by grind) (by grind)
  have h3:=Rat.mul_le_mul_of_nonneg_left hs (cI (f N-r)).1;have h4:=Rat.mul_le_mul_of_nonneg_right hd (Rat.le_of_lt hBp)
  grind
 .exact dW.all (by unfold dV;rw[me,xa];rfl)
theorem GX(r:Rat):∀ ε,0<ε->∃ N0,∀ N,N0<=N->aE (EQ r N-EQ (r*P2 (-1)) N*EQ (r*P2 (-1)) N)<=ε:=by
 intro ε hε;have e:r*P2 (-1)+r*P2 (-1)=r:=by
  have:P2 (-1)=1/2:=by decide +kernel
  rw[this];grind
 have:=uZ (r*P2 (-1)) (r*P2 (-1)) hε;rwa[e]at this
theorem On{r:Rat}{X:Iv}(hx:X.Valid)(h:dW (EQ (r*P2 (-1))) X){p:Nat}(hp:1<=p)(hp2:p<=4096):dW (EQ r) (dV X p):=(h.Sh hx hp hp2).shift (GX r)
theorem RR{y:Iv}{n:Int}(h:Sub y (eE n)):(c9 y (-1)).all=true\/Sub (c9 y (-1)) (eE (n-1)):=by
 obtain⟨ya,k1,k2⟩:=h.known rfl;replace k1:(aC (eO n)).q<=y.lo.q:=k1;replace k2:y.hi.q<=(eO n).q:=k2;rw[fD,fC]at k1;rw[fC]at k2;unfold c9 ck;rw[ya];simp only[Bool.false_eq_true,if_false];split
 .exact .inl rfl
 .rename_i he
  have e:P2 (n-1)=P2 n*P2 (-1):=by rw[<-fG];congr 1
  refine .inr (.inr ⟨rfl,?_,?_⟩)
  .show (aC (eO (n-1))).q<=(il y.lo (-1)).q
   rw[fD,fC,mO (by omega),e,<-Rat.neg_mul,jB];exact k1
  .show (il y.hi (-1)).q<=(eO (n-1)).q
   rw[fC,mO (by omega),e,jB];exact k2
open Go.RowKit Fp Pu
def iy(z:Rat)(k:Nat):Rat:=dA z (2*k+1)/((2*k+1:Nat):Rat)
def AQ(z:Rat)(N:Nat):Rat:=aA (iy z) (N+1)
def dK(z:Iv)(p:Nat):Nat->Iv
 | 0=>z
 | k+1=>aV (dK z p k) (dV z p) p
def iT(z:Iv)(p:Nat):Nat->Iv
 | 0=>z
 | k+1=>bj (iT z p k) (bT (dK z p (k+1)) (aN ((2*k+3:Nat):Int)) p) p
noncomputable def pd(z:Iv)(p N:Nat):Iv:=c9 (bj (iT z p N) (fH (dK z p N)) p) 1
theorem kA{z:Iv}(hz:z.Valid){p:Nat}(hp1:8<=p)(hp2:p<=512):∀ k,(dK z p k).Valid
 | 0=>hz
 | _+1=>iG _ _ (by omega) (by omega)
theorem nF{z:Iv}(hz:z.Valid){p:Nat}(hp1:8<=p)(hp2:p<=512):∀ k,(iT z p k).Valid
 | 0=>hz
 | k+1=>gO (nF hz hp1 hp2 k) (jP _ _ (by omega) (by omega)) (by omega) (by omega)
theorem Ol{z:Iv}(hz:z.Valid){p:Nat}(hp1:8<=p)(hp2:p<=512)(N:Nat):(pd z p N).Valid:=uy (gO (nF hz hp1 hp2 N) (oA (kA hz hp1 hp2 N)) (by omega) (by omega)) 1
theorem yH(r:Rat)(k:Nat):dA r (2*(k+1)+1)=dA r (2*k+1)*(r*r):=by
 show dA r (2*k+1)*r*r=_
 grind
theorem xi{z:Iv}{r:Rat}(hz:z.Valid)(h:z.has r){p:Nat}(hp1:8<=p)(hp2:p<=512):∀ k,(dK z p k).has (dA r (2*k+1))
 | 0=>by
  have e:dA r (2*0+1)=r:=by show 1*r=r;grind
  rw[e];exact h
 | k+1=>by
  rw[yH];exact tG (kA hz hp1 hp2 k) (uD hz (by omega) (by omega)) (by omega) (by omega) (xi hz h hp1 hp2 k) (yW hz (by omega) (by omega) h)
theorem Dg{z:Iv}{r:Rat}(hz:z.Valid)(h:z.has r){p:Nat}(hp1:8<=p)(hp2:p<=512):∀ k,k<1000000->(iT z p k).has (AQ r k)
 | 0,_=>by
  have e:AQ r 0=r:=by
   show 0+1*r/((2*0+1:Nat):Rat)=r;have:((2*0+1:Nat):Rat)=1:=rfl;rw[this,Rat.div_def,show(1:Rat)⁻¹=1 by decide +kernel];grind
  rw[e];exact h
 | k+1,hk=>mZ (nF hz hp1 hp2 k) (jP _ _ (by omega) (by omega)) (by omega) (by omega) (Dg hz h hp1 hp2 k (by omega))
   (sL (kA hz hp1 hp2 (k+1)) (qT (2*k+3) (by omega)) (by omega) (by omega) (xi hz h hp1 hp2 (k+1)) (Eb (2*k+3)))
theorem vh(r:Rat):∀ n,aE (dA r n)=dA (aE r) n
 | 0=>by show aE 1=1;decide +kernel
 | n+1=>by simp only[dA];rw[ko,vh r n]
theorem Hj(r:Rat)(k:Nat):aE (iy r k)<=dA (aE r) (2*k+1):=by
 unfold iy;have hp:(0:Rat)<((2*k+1:Nat):Rat):=mD (2*k);have h1:(1:Rat)<=((2*k+1:Nat):Rat):=by
  have:=Rat.natCast_le_natCast (a:=1) (b:=2*k+1);exact this.2 (by omega)
 have h0:=nX (cI r).1 (2*k+1);rw[Rat.div_def,ko,vh];have hi:=Rat.inv_pos.2 hp;have e:aE (((2*k+1:Nat):Rat)⁻¹)=((2*k+1:Nat):Rat)⁻¹:=by unfold aE;rw[if_pos (Rat.le_of_lt hi)]
 rw[e,<-Rat.div_def];have x0:=BN h0 hp;have xc:=Rat.div_mul_cancel (a:=dA (aE r) (2*k+1)) (b:=((2*k+1:Nat):Rat)) (by grind);generalize dA (aE r) (2*k+1)/((2*k+1:Nat):Rat)=x at *
 have:=Rat.mul_le_mul_of_nonneg_left h1 x0
 grind
theorem Ar{r:Rat}(hr:aE r*2<=1)(N:Nat):∀ d,aA (fun i=>aE (iy r (N+1+i))) d+dA (aE r) (2*(N+d)+1)<=dA (aE r) (2*N+1)
 | 0=>by simp only[aA,Nat.add_zero];grind
 | d+1=>by
  have ih:=Ar hr N d;have h1:=Hj r (N+1+d);have e:2*(N+1+d)+1=2*(N+d+1)+1:=by omega
  rw[e,yH]at h1;have e2:2*(N+(d+1))+1=2*(N+d+1)+1:=by omega
  rw[e2,yH,aA];have h0:=nX (cI r).1 (2*(N+d)+1);have hz:=(cI r).1;have hs:aE r*aE r*4<=1:=by
   have m:=Rat.mul_le_mul_of_nonneg_left hr (show 0<=aE r*2 by grind)
   grind
  generalize dA (aE r) (2*(N+d)+1)=u at *
  generalize aE r*aE r=v at *
  have m2:=Rat.mul_le_mul_of_nonneg_left hs h0
  grind
theorem Oj{z:Iv}{r:Rat}(hz:z.Valid)(h:z.has r)(hr:aE r*2<=1){p:Nat}(hp1:8<=p)(hp2:p<=512){N:Nat}(hN:N<=1000):∀ M,N<=M->(pd z p N).has (AQ r M*2):=by
 intro M hM;obtain⟨d,rfl⟩:∃ d,M=N+d:=⟨M-N,by omega⟩
 have e1:AQ r (N+d)=AQ r N+aA (fun i=>iy r (N+1+i)) d:=by
  unfold AQ;rw[show N+d+1=N+1+d by omega,pH]
 have t:=Ar hr N d;have b1:=oo (fun i=>iy r (N+1+i)) d;have p0:=nX (cI r).1 (2*(N+d)+1);have e2:P2 1=2:=by decide +kernel
 rw[<-e2,e1];refine yM (mZ (nF hz hp1 hp2 N) (oA (kA hz hp1 hp2 N)) (by omega) (by omega) (Dg hz h hp1 hp2 N (by omega)) (Aq (kA hz hp1 hp2 N) (xi hz h hp1 hp2 N) ?_)) 1;rw[vh];grind
theorem Si{z:Iv}(hz:z.Valid)(h:Sub z (eE (-1))){p:Nat}(hp1:8<=p)(hp2:p<=512):Sub (dV z p) (eE (-1)):=by
 obtain⟨za,k1,k2⟩:=h.known rfl;replace k1:(aC (eO (-1))).q<=z.lo.q:=k1;replace k2:z.hi.q<=(eO (-1)).q:=k2;have e:P2 (-1)=1/2:=by decide +kernel
 rw[fD,fC,e]at k1;rw[fC,e]at k2;have hl:=Ab za;have ha:(bh z).Valid:=sc hz;have hq:=ha.q;have hh:(bh z).hi.q<=1/2:=by
  unfold bh;rw[za];show(di z).q<=1/2;obtain⟨_,_,m⟩:=nG hz.q;have:=hz.q;rcases m with m|m<;>grind
 have G1:=lX (p:=p) (by omega) (n:=-1) (by decide) (by decide);have A:=jW (mi (bh z).lo (bh z).lo) (p:=p) (by omega) (by omega);have B:=jX (mi (bh z).hi (bh z).hi) (p:=p) (by omega) (by omega);rw[pr]at A B;rw[e]at G1;have hlo:0<=(bh z).lo.q*(bh z).lo.q:=Rat.mul_nonneg hl hl;have hhi:(bh z).hi.q*(bh z).hi.q<=1/2:=by
  have h0:0<=(bh z).hi.q:=Rat.le_trans hl hq;have m:=Rat.mul_le_mul_of_nonneg_left hh h0
  grind
 have a1:=A.2 (-(1/2)) G1.neg (by grind);have b1:=B.2 (1/2) G1 hhi;unfold dV ck;rw[me,za];simp only[Bool.false_eq_true,if_false];rw[if_neg (by omega)];refine .inr ⟨rfl,?_,?_⟩
 .show (aC (eO (-1))).q<=_
  rw[fD,fC,e];exact a1.2
 .show _<=(eO (-1)).q
  rw[fC,e];exact b1.2
theorem Df{z:Iv}(hz:z.Valid)(h:Sub z (eE (-1))){p:Nat}(hp1:8<=p)(hp2:p<=512):∀ k,k<=900->Sub (dK z p k) (eE (-((k+1:Nat):Int)))
 | 0,_=>h
 | k+1,hk=>by
  have ih:=Df hz h hp1 hp2 k (by omega);have sq:=Si hz h hp1 hp2;have vT:=kA hz hp1 hp2 k;obtain⟨ta,_⟩:=ih.known rfl;obtain⟨ya,_⟩:=sq.known rfl;exact pW (xt vT (uD hz (by omega) (by omega)) ta ya (show 1<=p by omega) (by omega)) (by omega) (by omega) (by omega) (by
   rintro r ⟨a,b,ha,hb,rfl⟩;obtain⟨a1,a2⟩:=oC.1 (ih.has ha);obtain⟨b1,b2⟩:=oC.1 (sq.has hb);rw[<-CL];exact Ad a1 a2 b1 b2)
theorem Om{z:Iv}(hz:z.Valid)(h:z.all=true\/Sub z (eE (-1))){p:Nat}(hp1:8<=p)(hp2:p<=512):∃ N,N<=1000/\(∀ x,x<N->eh (dK z p x) p=false)/\eh (dK z p N) p=true:=by
 have ex:∃ x,x<900/\eh (dK z p x) p=true:=by
  rcases h with h|h
  .exact ⟨0,by omega,by show eh z p=true;unfold eh;rw[h];rfl⟩
  .exact ⟨p,by omega,Gn (kA hz hp1 hp2 _) (Df hz h hp1 hp2 p (by omega))⟩
 obtain⟨N,n1,n2,n3⟩:=gF ex;exact⟨N,by omega,n3,n2⟩
theorem Hs{a b:Rat}(h:a<=b)(k:Nat):iy a k<=iy b k:=by
 unfold iy;rw[Rat.div_def,Rat.div_def];exact Rat.mul_le_mul_of_nonneg_right (yG (by omega) h) (Rat.le_of_lt (Rat.inv_pos.2 (mD (2*k))))
theorem rV{a b:Rat}(h:a<=b)(N:Nat):AQ a N<=AQ b N:=nZ _ fun k _=>Hs h k
open Go.RowKit Fp Pu
theorem rf{d:Dy}(h:d.m≠0):aE d.q<P2 d.top:=by
 have hT:d.top=(ak d.m:Int)+d.e:=by unfold Dy.top;rw[if_neg h]
 have h1:(d.m:Rat)<((2^ak d.m:Nat):Rat):=Rat.natCast_lt_natCast.2 (gi d.m);have h2:=Rat.mul_lt_mul_of_pos_right h1 (dt d.e);rw[<-kN,<-fG]at h2;have h0:0<=(d.m:Rat)*P2 d.e:=Rat.mul_nonneg Rat.natCast_nonneg (Rat.le_of_lt (dt _));have h4:aE d.q=(d.m:Rat)*P2 d.e:=by
  rw[e9];unfold aE;cases d.neg
  .simp only[Bool.false_eq_true,if_false];rw[if_pos h0]
  .simp only[if_true]
   split<;>grind
 rw[h4,hT];exact h2
theorem xZ{d:Dy}(h:d.m≠0):P2 (d.top-1)<=aE d.q:=by
 have hT:d.top=(ak d.m:Int)+d.e:=by unfold Dy.top;rw[if_neg h]
 have hb:0<ak d.m:=jz.2 (by rw[Nat.pow_zero];omega);have h1:2^(ak d.m-1)<=d.m:=jz.1 (by omega);have h2:((2^(ak d.m-1):Nat):Rat)<=(d.m:Rat):=Rat.natCast_le_natCast.2 h1;have h3:=Rat.mul_le_mul_of_nonneg_right h2 (Rat.le_of_lt (dt d.e));rw[<-kN,<-fG,show((ak d.m-1:Nat):Int)+d.e=d.top-1 by rw[hT];omega]at h3;have h4:aE d.q=(d.m:Rat)*P2 d.e:=by
  have h0:0<=(d.m:Rat)*P2 d.e:=Rat.mul_nonneg Rat.natCast_nonneg (Rat.le_of_lt (dt _));rw[e9];unfold aE;cases d.neg
  .simp only[Bool.false_eq_true,if_false];rw[if_pos h0]
  .simp only[if_true]
   split<;>grind
 rw[h4];exact h3
theorem pq{d:Dy}(h:0<d.q):d.m≠0:=fun e=>by
 have:d.q=0:=by rw[e9,e];simp
 grind
theorem se{r:Rat}(h:0<r):aE r=r:=by unfold aE;rw[if_pos (Rat.le_of_lt h)]
def jA(d:Dy):Rat:=d.q*P2 (-d.top)
def lR(d:Dy):Rat:=(jA d-1)/(jA d+1)
theorem zU(k:Int):P2 k*P2 (-k)=1:=by rw[<-fG,show k + -k=0 by omega,u7]
theorem DI{d:Dy}(h:0<d.q):1/2<=jA d/\jA d<1:=by
 have h1:=xZ (pq h);have h2:=rf (pq h);rw[se h]at h1 h2;have hp:=dt (-d.top);have e1:=zU d.top;have e2:P2 (d.top-1)*P2 (-d.top)=1/2:=by
  rw[<-fG,show d.top-1 + -d.top = -1 by omega];decide +kernel
 have m1:=Rat.mul_le_mul_of_nonneg_right h1 (Rat.le_of_lt hp);have m2:=Rat.mul_lt_mul_of_pos_right h2 hp;unfold jA;constructor<;>grind
theorem wK{a b:Rat}(ha:0<=a)(h:a<=b):(a-1)/(a+1)<=(b-1)/(b+1):=by
 have h1:0<a+1:=by grind
 have h2:0<b+1:=by grind
 have e1:=Rat.div_mul_cancel (a:=a-1) (b:=a+1) (by grind);have e2:=Rat.div_mul_cancel (a:=b-1) (b:=b+1) (by grind);generalize (a-1)/(a+1)=x at *
 generalize (b-1)/(b+1)=y at *
 apply Rat.not_lt.1;intro hlt;have m1:=Rat.mul_lt_mul_of_pos_right hlt h1;have hy:y<1:=by
  apply Rat.not_le.1;intro hle;have:=Rat.mul_le_mul_of_nonneg_right hle (Rat.le_of_lt h2)
  grind
 have m2:=Rat.mul_le_mul_of_nonneg_left h (show 0<=1-y by grind)
 grind
theorem zI{d:Dy}(h:0<d.q):-(1/3)<=lR d/\lR d<=0:=by
 obtain⟨h1,h2⟩:=DI h;have a:=wK (show(0:Rat)<=1/2 by decide +kernel) h1;have b:=wK (show 0<=jA d by grind) (Rat.le_of_lt h2);have e1:((1:Rat)/2-1)/(1/2+1) = -(1/3):=by decide +kernel
 have e2:((1:Rat)-1)/(1+1)=0:=by decide +kernel
 rw[e1]at a;rw[e2]at b;exact⟨a,b⟩
theorem uY(z:Rat)(N:Nat):AQ (-z) N = -AQ z N:=by
 have:∀ n,aA (iy (-z)) n = -aA (iy z) n:=by
  intro n
  induction n with
  | zero=>simp[aA]
  | succ n ih =>
   rw[aA,aA,ih];have:iy (-z) n = -iy z n:=by
    unfold iy;rw[nW,if_neg (by omega)];simp only[Rat.div_def];grind
   rw[this];grind
 exact this _
theorem zJ(N:Nat):AQ 0 N=0:=by
 have:=uY 0 N;rw[show -(0:Rat)=0 by decide +kernel]at this
 grind
theorem GV(N:Nat):0<=AQ (1/3) N:=by
 have:=rV (show(0:Rat)<=1/3 by decide +kernel) N;rwa[zJ]at this
def LQ(d:Dy)(N:Nat):Rat:=AQ (lR d) N*2+(d.top:Rat)*(AQ (1/3) N*2)
theorem SX{a b:Dy}(ha:0<a.q)(h:a.q<=b.q):a.top<=b.top:=by
 have hb:0<b.q:=by grind
 have h1:=xZ (pq ha);have h2:=rf (pq hb);rw[se ha]at h1;rw[se hb]at h2;apply Classical.byContradiction;intro hlt;have:=pM (show b.top<=a.top-1 by omega)
 grind
theorem G8{a b:Dy}(ha:0<a.q)(h:a.q<=b.q)(N:Nat):LQ a N<=LQ b N:=by
 have hb:0<b.q:=by grind
 have ht:=SX ha h;obtain⟨a1,a2⟩:=zI ha;obtain⟨b1,b2⟩:=zI hb;have c0:=GV N;unfold LQ;rcases Int.lt_or_eq_of_le ht with hlt|heq
 .have k1:=rV a2 N
  rw[zJ]at k1;have k2:=rV b1 N;rw[uY]at k2;have k3:(a.top:Rat)+1<=(b.top:Rat):=by
   have:=Rat.intCast_le_intCast (a:=a.top+1) (b:=b.top);have:=this.2 (by omega);rwa[Rat.intCast_add]at this
  have k4:=Rat.mul_le_mul_of_nonneg_right k3 (show 0<=AQ (1/3) N*2 by grind)
  grind
 .have hm:jA a<=jA b:=by
   unfold jA;rw[heq];exact Rat.mul_le_mul_of_nonneg_right h (Rat.le_of_lt (dt _))
  have hz:lR a<=lR b:=wK (by have:=(DI ha).1;grind) hm;have:=rV hz N;rw[heq]
  grind
theorem G9(N:Nat):LQ ⟨false,1,0⟩ N=0:=by
 have e1:lR ⟨false,1,0⟩ = -(1/3):=by decide +kernel
 have e2:((⟨false,1,0⟩:Dy).top:Rat)=1:=by decide +kernel
 unfold LQ;rw[e1,e2,uY];grind
open Go.RowKit Fp Pu
noncomputable def iD(d:Dy)(p:Nat):Iv:=c9 (cr (cF d) p) (-d.top)
noncomputable def pf(d:Dy)(p:Nat):Iv:=bT (bj (iD d p) (aN (-1)) p) (bj (iD d p) (aN 1) p) p
theorem Gs{d:Dy}(hd:d.Valid)(h:d.m≠0):-16384<=d.top-1/\d.top<=16384:=by
 have hT:d.top=(ak d.m:Int)+d.e:=by unfold Dy.top;rw[if_neg h]
 have hb:0<ak d.m:=jz.2 (by rw[Nat.pow_zero];omega);have h1:=hd.range;unfold cY at h1;have h2:=hd.exp;constructor
 .omega
 .rw [hT]
  first|omega|(rcases h1 with h1|h1<;>first|omega|exact absurd h1 h)
theorem Rt{d:Dy}(hd:d.Valid)(h:0<d.q){p:Nat}(hp1:8<=p)(hp2:p<=512)(ha:(cr (cF d) p).all=false):P2 (d.top-1)<=(cr (cF d) p).lo.q/\(cr (cF d) p).hi.q<=P2 d.top:=by
 have hm:=pq h;obtain⟨t1,t2⟩:=Gs hd hm;have q1:=xZ hm;have q2:=rf hm;rw[se h]at q1 q2;have A:=jW hd.canon (p:=p) (by omega) (by omega);have B:=jX hd.canon (p:=p) (by omega) (by omega);have G1:G p (P2 (d.top-1)):=.inl ⟨1,d.top-1,by rw[kq];omega,t1,by rw[kq];omega,by simp⟩;have he:¬(bg d p false≠0\/bg d p true≠0):=by
  intro hc;unfold cr ck at ha;rw[show(cF d).all=false from rfl]at ha;simp only[Bool.false_eq_true,if_false]at ha;rw[if_pos (show bg (cF d).lo p false≠0\/bg (cF d).hi p true≠0 from hc)]at ha;cases ha
 have e1:(cr (cF d) p).lo=bq d p false/\(cr (cF d) p).hi=bq d p true:=by
  unfold cr ck;rw[show(cF d).all=false from rfl];simp only[Bool.false_eq_true,if_false];rw[if_neg (show ¬(bg (cF d).lo p false≠0\/bg (cF d).hi p true≠0)from he)];exact⟨rfl,rfl⟩
 rw[e1.1,e1.2];refine⟨(A.2 _ G1 q1).2,?_⟩;by_cases ht:d.top<=16383
 .have G2:G p (P2 d.top):=.inl ⟨1,d.top,by rw[kq];omega,by omega,by rw[kq];omega,by simp⟩
  exact(B.2 _ G2 (Rat.le_of_lt q2)).2
 .obtain ⟨g,_⟩:=B.1 (by omega)
  have hq0:0<=(bq d p true).q:=Rat.le_trans (Rat.le_of_lt h) (B.1 (by omega)).2;obtain⟨m,e,hb,_,hr,hv⟩:=g.pos hq0;rw[hv];have h1:(m:Rat)<=((2^ak m:Nat):Rat):=Rat.natCast_le_natCast.2 (Nat.le_of_lt (gi m));have h2:=Rat.mul_le_mul_of_nonneg_right h1 (Rat.le_of_lt (dt e));rw[<-kN,<-fG]at h2;exact Rat.le_trans h2 (pM (by omega))
theorem OF{d:Dy}(hd:d.Valid){p:Nat}(hp1:8<=p)(hp2:p<=512):(iD d p).has (jA d):=yM (rz (jF hd) (by omega) (by omega) (xU d)) _
theorem OH{d:Dy}(hd:d.Valid){p:Nat}(hp1:8<=p)(hp2:p<=512):(iD d p).Valid:=uy (pA (jF hd) (by omega) (by omega)) _
theorem OG{d:Dy}(hd:d.Valid)(h:0<d.q){p:Nat}(hp1:8<=p)(hp2:p<=512)(ha:(iD d p).all=false):1/2<=(iD d p).lo.q/\(iD d p).hi.q<=1:=by
 unfold iD c9 at ha ⊢;cases ra:(cr (cF d) p).all
 .rw [ra]at ha
  obtain⟨h1,h2⟩:=Rt hd h hp1 hp2 ra;simp only[Bool.false_eq_true,if_false]at ha ⊢;unfold ck at ha ⊢;split
  .rename_i he
   rw[if_pos he]at ha;cases ha
  .rename_i he
   have e1:=zU d.top;have e2:P2 (d.top-1)*P2 (-d.top)=1/2:=by
    rw[<-fG,show d.top-1 + -d.top = -1 by omega];decide +kernel
   refine⟨?_,?_⟩
   .show 1/2<=(il _ _).q
    rw[mO (by omega),<-e2,jB];exact h1
   .show (il _ _).q<=1
    rw[mO (by omega),<-e1,jB];exact h2
 .rw [ra]at ha;cases ha
theorem Nh{a b:Rat}(h1:-(1/2)<=a)(h2:a<=1/2)(hb:1<=b):-(1/2)<=a/b/\a/b<=1/2:=by
 have e:=Rat.div_mul_cancel (a:=a) (b:=b) (by grind);generalize a/b=x at *
 constructor
 .apply Rat.not_lt.1
  intro hlt;have:=Rat.mul_lt_mul_of_pos_right hlt (show 0<b by grind)
  grind
 .apply Rat.not_lt.1
  intro hlt;have:=Rat.mul_lt_mul_of_pos_right hlt (show 0<b by grind)
  grind
theorem OI{d:Dy}(hd:d.Valid)(h:0<d.q){p:Nat}(hp1:8<=p)(hp2:p<=512):(pf d p).Valid/\(pf d p).has (lR d)/\((pf d p).all=true\/Sub (pf d p) (eE (-1))):=by
 have vM:=OH hd hp1 hp2;have hM:=OF hd hp1 hp2;have vn:(aN (-1)).Valid:=jC (by decide);have v1:(aN 1).Valid:=jC (by decide);have vA:(bj (iD d p) (aN (-1)) p).Valid:=gO vM vn (by omega) (by omega);have vB:(bj (iD d p) (aN 1) p).Valid:=gO vM v1 (by omega) (by omega);have e1:(((-1:Int)):Rat) = -1:=by decide +kernel
 have e2:(((1:Int)):Rat)=1:=by decide +kernel
 have hA:=mZ vM vn (p:=p) (by omega) (by omega) hM (lr (-1));have hB:=mZ vM v1 (p:=p) (by omega) (by omega) hM (lr 1);rw[e1,show jA d + -1=jA d-1 by grind]at hA;rw[e2]at hB;refine⟨jP _ _ (by omega) (by omega),sL vA vB (by omega) (by omega) hA hB,?_⟩;cases ma:(iD d p).all
 .right
  obtain⟨m1,m2⟩:=OG hd h hp1 hp2 ma;have one:∀ (n:Int) r,(aN n).has r->r=(n:Rat):=fun n r hr=>by
   obtain⟨r1,r2⟩:=hr.ends rfl;replace r1:(az n).q<=r:=r1;replace r2:r<=(az n).q:=r2;rw[mK]at r1 r2;exact Rat.le_antisymm r2 r1
  have g1:G p (1/2):=by have:=lX (p:=p) (by omega) (n:=-1) (by decide) (by decide);rwa[show P2 (-1)=1/2 by decide +kernel]at this
  have g2:G p 1:=by have:=lX (p:=p) (by omega) (n:=0) (by decide) (by decide);rwa[u7]at this
  have g4:G p 2:=by have:=lX (p:=p) (by omega) (n:=1) (by decide) (by decide);rwa[show P2 1=2 by decide +kernel]at this
  obtain⟨aa,a1,a2⟩:=(vi vM vn ma rfl (show 1<=p by omega) (by omega)).least (-(1/2)) (1/2) g1.neg g1 (by
   rintro r ⟨a,b,ha,hb,rfl⟩;obtain⟨b1,b2⟩:=ha.ends ma;rw[one _ b hb,e1];constructor<;>grind)
  obtain⟨ba,b1,b2⟩:=(vi vM v1 ma rfl (show 1<=p by omega) (by omega)).least 1 2 g2 g4 (by
   rintro r ⟨a,b,ha,hb,rfl⟩;obtain⟨b1,b2⟩:=ha.ends ma;rw[one _ b hb,e2];constructor<;>grind)
  refine pW (sK vA vB aa (yT ba (.inl (by grind))) (show 1<=p by omega) (by omega)) (by omega) (by decide) (by decide) ?_;rintro r ⟨a,b,ha,hb,rfl⟩;obtain⟨x1,x2⟩:=ha.ends aa;obtain⟨y1,y2⟩:=hb.ends ba;rw[show P2 (-1)=1/2 by decide +kernel];exact Nh (by grind) (by grind) (by grind)
 .left
  show(bT (bj (iD d p) (aN (-1)) p) (bj (iD d p) (aN 1) p) p).all=true;rw[sf p (.inl ma),qj p (.inl rfl)];rfl
theorem LI{d:Dy}(hd:d.Valid)(h:d.m≠0){p:Nat}(hp1:8<=p)(hp2:p<=512){n:Int}(h1:d.top<=n)(h2:-1000<=n)(h3:n<=1000):Sub (cr (cF d) p) (eE n):=by
 refine Rs (jF hd) (by omega) (by omega) h2 h3 (.inr ⟨rfl,?_,?_⟩)
 .show (aC (eO n)).q<=d.q
  rw[fD,fC];have:=rf h;have hl:=pM h1;obtain⟨_,a2,a3,_⟩:=cI d.q
  grind
 .show d.q<=(eO n).q
  rw[fC];have:=rf h;have hl:=pM h1;obtain⟨_,a2,a3,_⟩:=cI d.q
  grind
open Go.RowKit Fp Pu
def GD(y:Iv)(p n:Nat)(x:Nat):PS:=⟨32,true,[(7,.e (iP (((x+1):Nat):Int))),(6,.box 6 0),(5,.box 5 0),(4,.box 4 0),(3,.box 3 0),(2,.box 2 0)],[(6,.cells 41 (aF (iA y p x))),(5,.cells 41 (aF (b7 y p x))),(4,.cells 41 [(bP false),(.v (.slice none 0 0)),(iP 0),(bP false),(.v (.slice none 0 0)),(iP 0),(bP false)]),(3,.cells 41 (aF y)),(2,.cells 201 [(iP p)])]⟩
theorem Oq{f:Nat->Rat}{X Y:Iv}(h:dW f X)(k:∀ r,X.has r->Y.has r):dW f Y:=fun ε hε=>by
 obtain⟨N0,h0⟩:=h ε hε;exact⟨N0,fun N hN=>by obtain⟨r,h1,h2⟩:=h0 N hN;exact⟨r,k r h1,h2⟩⟩
theorem NX{x:Iv}(hx:x.Valid)(ha:x.all=true):x=aj:=by
 obtain⟨h1,h2⟩:=C5 hx ha;obtain⟨a,b,c⟩:=x;simp only at h1 h2 ha;rw[h1,h2,ha];rfl
theorem Ik(x:Iv)(hx:x.Valid)(xa:x.all=true)(k:Int)(k1:-32768<=k)(k2:k<=32768):ae 259 [(ai x),(iP k)] (ai (c9 x k)):=by
 exact tr true Tryz.call259 Tryz.func259 (chain [.o 10 (.e (cR _):PV.le (.e (.sl true 1 7 fun i_ j_=>(aF x).getD (i_*7+j_) (.v (.bool false)))) (.e (an [x]))),.c (eK _ ‹_›:ae 86 [(an [x])] _),tB 11 (by rw[xa];rfl:(!x.all)=false),
  .c du]<|rQ (ai aj) (ai (c9 x k)) (by rw[show(c9 x k)=aj by unfold c9;rw[if_pos xa]])) (by kernel_rfl)
theorem Il(x:Iv)(hx:x.Valid)(xa:x.all=false)(k:Int)(k1:-32768<=k)(k2:k<=32768):ae 259 [(ai x),(iP k)] (ai (c9 x k)):=by
 obtain⟨v1,v2⟩:=hx.ends;exact tr true Tryz.call259 Tryz.func259 (chain [.o 10 (.e (cR _):PV.le (.e (.sl true 1 7 fun i_ j_=>(aF x).getD (i_*7+j_) (.v (.bool false)))) (.e (an [x]))),.c (eK _ ‹_›:ae 86 [(an [x])] _),tB 11 (by rw[xa];rfl:(!x.all)=true),
  .c (sx x.lo k ‹_› (by omega) (by omega)),.c (sx x.hi k ‹_› (by omega) (by omega)),
  .c (nB (aO (canon x.lo.neg x.lo.m (x.lo.e+k))) (aO (canon x.hi.neg x.hi.m (x.hi.e+k))) (bV (canon x.lo.neg x.lo.m (x.lo.e+k))) (bV (canon x.hi.neg x.hi.m (x.hi.e+k))))]<|rQ (ai (ck (aO (canon x.lo.neg x.lo.m (x.lo.e+k))) (bV (canon x.lo.neg x.lo.m (x.lo.e+k))) (aO (canon x.hi.neg x.hi.m (x.hi.e+k))) (bV (canon x.hi.neg x.hi.m (x.hi.e+k))))) (ai (c9 x k)) (by unfold c9;rw[if_neg (by rw[xa];decide)];simp only[RO,RP])) (by kernel_rfl)
theorem vt(x:Iv)(hx:x.Valid)(k:Int)(k1:-32768<=k)(k2:k<=32768):ae 259 [(ai x),(iP k)] (ai (c9 x k)):=by
 cases xa:x.all with
 | true=>exact Ik x hx xa k k1 k2
 | false=>exact Il x hx xa k k1 k2
theorem Ii(x:Iv)(hx:x.Valid)(xa:x.all=true)(p:Nat)(hp1:8<=p)(hp2:p<=512):ae 305 [(ai x),(iP p)] (ai (cr x p)):=by
 exact tr true Tryz.call305 Tryz.func305 (chain [.o 10 (.e (cR _):PV.le (.e (.sl true 1 7 fun i_ j_=>(aF x).getD (i_*7+j_) (.v (.bool false)))) (.e (an [x]))),.c (eK _ ‹_›:ae 86 [(an [x])] _),tB 11 (by rw[xa];rfl:(!x.all)=false),
  .c du]<|rQ (ai aj) (ai (cr x p)) (by rw[show(cr x p)=aj by unfold cr;rw[if_pos xa]])) (by kernel_rfl)
theorem Ij(x:Iv)(hx:x.Valid)(xa:x.all=false)(p:Nat)(hp1:8<=p)(hp2:p<=512):ae 305 [(ai x),(iP p)] (ai (cr x p)):=by
 obtain⟨v1,v2⟩:=hx.ends;exact tr true Tryz.call305 Tryz.func305 (chain [.o 10 (.e (cR _):PV.le (.e (.sl true 1 7 fun i_ j_=>(aF x).getD (i_*7+j_) (.v (.bool false)))) (.e (an [x]))),.c (eK _ ‹_›:ae 86 [(an [x])] _),tB 11 (by rw[xa];rfl:(!x.all)=true),
  .c (jx _:ae 87 [(iP p)] _),tB 15 (fS.2 ⟨by omega,by omega⟩:(cB (p:Int))=true),.c (ss x.lo p ‹_› (by omega) (by omega)),
  .c (su x.hi p ‹_› (by omega) (by omega)),.c (nB (bq x.lo p false) (bq x.hi p true) (bg x.lo p false) (bg x.hi p true))]<|rQ (ai (ck (bq x.lo p false) (bg x.lo p false) (bq x.hi p true) (bg x.hi p true))) (ai (cr x p)) (by unfold cr;rw[if_neg (by rw[xa];decide)])) (by kernel_rfl)
theorem pU(x:Iv)(hx:x.Valid)(p:Nat)(hp1:8<=p)(hp2:p<=512):ae 305 [(ai x),(iP p)] (ai (cr x p)):=by
 cases xa:x.all with
 | true=>exact Ii x hx xa p hp1 hp2
 | false=>exact Ij x hx xa p hp1 hp2
theorem Im(x:Iv)(hx:x.Valid)(xa:x.all=true)(p:Nat)(hp1:8<=p)(hp2:p<=512):ae 321 [(ai x),(iP p)] (ai (dV x p)):=by
 have ha:(bh x).all=true:=by rw[me,xa]
 exact tr true Tryz.call321 Tryz.func321 (chain [.c (wY x ‹_›),tB 13 (ha:(bh x).all=true),.c du]<|rQ (ai aj) (ai (dV x p)) (by unfold dV;rw[if_pos ha])) (by kernel_rfl)
theorem Io(x:Iv)(hx:x.Valid)(xa:x.all=false)(p:Nat)(hp1:8<=p)(hp2:p<=512):ae 321 [(ai x),(iP p)] (ai (dV x p)):=by
 have ha:(bh x).all=false:=by rw[me,xa]
 have hv:=sc hx;obtain⟨v1,v2⟩:=hv.ends;exact tr true Tryz.call321 Tryz.func321 (chain [.c (wY x ‹_›),tB 13 (ha:(bh x).all=false),.c (jx _:ae 87 [(iP p)] _),tB 16 (fS.2 ⟨by omega,by omega⟩:(cB (p:Int))=true),
  .c (uc ((bh x).lo) ((bh x).lo) p ‹_› ‹_› (by omega) (by omega)),.c (ud ((bh x).hi) ((bh x).hi) p ‹_› ‹_› (by omega) (by omega)),
  .c (nB (bq (cS ((bh x).lo) ((bh x).lo)) p false) (bq (cS ((bh x).hi) ((bh x).hi)) p true) (bg (cS ((bh x).lo) ((bh x).lo)) p false) (bg (cS ((bh x).hi) ((bh x).hi)) p true))]<|rQ (ai (ck (bq (cS ((bh x).lo) ((bh x).lo)) p false) (bg (cS ((bh x).lo) ((bh x).lo)) p false) (bq (cS ((bh x).hi) ((bh x).hi)) p true) (bg (cS ((bh x).hi) ((bh x).hi)) p true))) (ai (dV x p)) (by unfold dV;rw[if_neg (by rw[ha];decide)];rfl)) (by kernel_rfl)
theorem AH(x:Iv)(hx:x.Valid)(p:Nat)(hp1:8<=p)(hp2:p<=512):ae 321 [ai x,iP (p:Int)] (ai (dV x p)):=by
 cases xa:x.all with
 | true=>exact Im x hx xa p hp1 hp2
 | false=>exact Io x hx xa p hp1 hp2
theorem AI(x:Iv)(hx:x.Valid)(xa:x.all=true):ae 298 [(ai x)] (.aq [ag aT,bP false]):=by
 exact tr true Tryz.call298 Tryz.func298 (chain [.o 5 (.e (cR _):PV.le (.e (.sl true 1 7 fun i_ j_=>(aF x).getD (i_*7+j_) (.v (.bool false)))) (.e (an [x]))),.c (eK _ ‹_›:ae 86 [(an [x])] _),tB 6 (by rw[xa];rfl:(!x.all)=false),
  .o 8 (.e kf:PV.le (.e (.agg [(bP false),(.v (.slice none 0 0)),(iP 0)])) (.e (ag aT)))] <| .nil) (by kernel_rfl)
theorem j9(n:Int)(h:n.natAbs<4294967296):ae 303 [(iP n)] (ai (aN n)):=by
 have hv:=dD h;exact tr true Tryz.call303 Tryz.func303 (chain [.c (dB _ (by omega):ae 113 [(iP n)] _),.c (o9 (az n) ‹_›)] <| .nil) (by kernel_rfl)
theorem mY(p:Nat)(x y:Iv)(hx:x.Valid)(hy:y.Valid)(hp1:8<=p)(hp2:p<=512):ae 308 [(.agg [(iP p)]),(ai x),(ai y)] (ai (bj x y p)):=by
 exact tr true Tryz.call308 Tryz.func308 (chain [.c (o0 x y p ‹_› ‹_› (by omega) (by omega))] <| .nil) (by kernel_rfl)
theorem uT(p:Nat)(x y:Iv)(hx:x.Valid)(hy:y.Valid)(hp1:8<=p)(hp2:p<=512):ae 310 [(.agg [(iP p)]),(ai x),(ai y)] (ai (aV x y p)):=by
 exact tr true Tryz.call310 Tryz.func310 (chain [.c (qv x y p ‹_› ‹_› (by omega) (by omega))] <| .nil) (by kernel_rfl)
theorem rM(p:Nat)(x y:Iv)(hx:x.Valid)(hy:y.Valid)(hp1:8<=p)(hp2:p<=512):ae 307 [(.agg [(iP p)]),(ai x),(ai y)] (ai (bT x y p)):=by
 exact tr true Tryz.call307 Tryz.func307 (chain [.c (CZ x y p ‹_› ‹_› (by omega) (by omega))] <| .nil) (by kernel_rfl)
theorem Tu(p:Nat)(x:Iv)(hx:x.Valid)(xa:x.all=true)(hp1:8<=p)(hp2:p<=512):ae 322 [(.agg [(iP p)]),(ai x)] (bP (eh x p)):=by
 exact tr true Tryz.call322 Tryz.func322 (chain [.c (AI _ hx xa:ae 298 [(ai x)] _)]<|rQ (bP true) (bP (eh x p)) (by unfold eh;rw[xa];rfl)) (by kernel_rfl)
theorem Gm{x:Iv}(xa:x.all=false)(p:Nat):eh x p=(((di x).sign==0)||decide ((di x).top<=0-(p:Int))):=by
 unfold eh;rw[xa,Bool.false_or];congr 1
 .unfold Dy.sign
  by_cases h:(di x).m=0
  .simp [h]
  .simp only[h,if_false,decide_false];split<;>rfl
 .rw [show(0:Int)-(p:Int) = -(p:Int)by omega]
theorem Tv(p:Nat)(x:Iv)(hx:x.Valid)(xa:x.all=false)(hp1:8<=p)(hp2:p<=512):ae 322 [(.agg [(iP p)]),(ai x)] (bP (eh x p)):=by
 have hm:=tD hx.ends.1 hx.ends.2;exact tr true Tryz.call322 Tryz.func322 (chain [.c (w7 x hx xa),.c (dJ _ ‹_›:ae 35 [(ag (di x))] _)] <| .w ((Dy.sign (di x))=0)
  (fun k1=>chain [tB 17 (beq_iff_eq.2 k1)]<|rQ (bP true) (bP (eh x p)) (by rw[Gm xa];simp[k1]))
  (fun k1=>chain [tB 17 (beq_eq_false_iff_ne.2 k1),.c (bR _ ‹_›:ae 130 [(ag (di x))] _),ar (0-(p:Int)) (by omega)]<|rQ (bP (decide ((Dy.top (di x))<=(0-(p:Int))))) (bP (eh x p)) (by rw[Gm xa];simp[k1]))) (by kernel_rfl)
theorem uU(p:Nat)(x:Iv)(hx:x.Valid)(hp1:8<=p)(hp2:p<=512):ae 322 [(.agg [(iP p)]),(ai x)] (bP (eh x p)):=by
 cases xa:x.all with
 | true=>exact Tu p x hx xa hp1 hp2
 | false=>exact Tv p x hx xa hp1 hp2
theorem TB(x:Iv)(hx:x.Valid)(xa:x.all=true):ae 323 [(ai x)] (ai (fH x)):=by
 exact tr true Tryz.call323 Tryz.func323 (chain [.c (AI _ hx xa:ae 298 [(ai x)] _),.c du]<|rQ (ai aj) (ai (fH x)) (by rw[show fH x=aj by unfold fH;rw[if_pos xa];exact NX hx xa])) (by kernel_rfl)
theorem TC(x:Iv)(hx:x.Valid)(xa:x.all=false):ae 323 [(ai x)] (ai (fH x)):=by
 have hm:=tD hx.ends.1 hx.ends.2;exact tr true Tryz.call323 Tryz.func323 (chain [.c (w7 x hx xa),.c (kX _ ‹_›:ae 191 [(ag (di x))] _)]<|rQ (ai (Iv.mk (aC (di x)) (di x) false)) (ai (fH x)) (by unfold fH;rw[if_neg (by rw[xa];decide)];try rfl)) (by kernel_rfl)
theorem GO(x:Iv)(hx:x.Valid):ae 323 [ai x] (ai (fH x)):=by
 cases xa:x.all with
 | true=>exact TB x hx xa
 | false=>exact TC x hx xa
theorem Tm(y:Iv)(p n:Nat)(hy:y.Valid)(hp1:8<=p)(hp2:p<=512)(h2:n<=1000)(hlo:∀ x,x<n->eh (b7 y p (x+1)) p=false)(hN:eh (b7 y p (n+1)) p=true):ae 320 [(.agg [(iP p)]),(ai y)] (ai (kY y p (n+1))):=by
 have t0:=jI hy hp1 hp2 n;have s0:=oM hy hp1 hp2 n;have t1:(aV (b7 y p n) y p).Valid:=iG _ _ (by omega) (by omega);have n1:(aN (((n+1:Nat)):Int)).Valid:=nL _ (by omega);have t2:(bT (aV (b7 y p n) y p) (aN (((n+1:Nat)):Int)) p).Valid:=jP _ _ (by omega) (by omega)
 have a1:(bj (iA y p n) (bT (aV (b7 y p n) y p) (aN (((n+1):Nat):Int)) p) p).Valid:=gO s0 t2 (by omega) (by omega);have r1:=oA t2;exact tr true Tryz.call320 Tryz.func320 (chain [.c (j9 _ (by omega):ae 303 [(iP 1)] _),.c (j9 _ (by omega):ae 303 [(iP 1)] _),
  .s (Sp.upto (GD y p n) 0 n (by omega) (fun x hx hltx=>by
    have t0:=jI hy hp1 hp2 x;have s0:=oM hy hp1 hp2 x;have t1:(aV (b7 y p x) y p).Valid:=iG _ _ (by omega) (by omega);have n1:(aN (((x+1:Nat)):Int)).Valid:=nL _ (by omega);have t2:(bT (aV (b7 y p x) y p) (aN (((x+1:Nat)):Int)) p).Valid:=jP _ _ (by omega) (by omega)
    exact aB (chain [.c (uT _ _ _ ‹_› ‹_› (by omega) (by omega):ae 310 [(.agg [(iP p)]),(ai (b7 y p x)),(ai y)] _),.c (j9 _ (by omega):ae 303 [(iP (((x+1):Nat):Int))] _),
     .c (rM _ _ _ ‹_› ‹_› (by omega) (by omega):ae 307 [(.agg [(iP p)]),(ai (aV (b7 y p x) y p)),(ai (aN (((x+1):Nat):Int)))] _),
     .c (mY _ _ _ ‹_› ‹_› (by omega) (by omega):ae 308 [(.agg [(iP p)]),(ai (iA y p x)),(ai (bT (aV (b7 y p x) y p) (aN (((x+1):Nat):Int)) p))] _),
     .c (uU _ _ ‹_› (by omega) (by omega):ae 322 [(.agg [(iP p)]),(ai (bT (aV (b7 y p x) y p) (aN (((x+1):Nat):Int)) p))] _),
     tB 26 (hlo x (by omega):(eh (bT (aV (b7 y p x) y p) (aN (((x+1):Nat):Int)) p) p)=false),ar ((((x+1):Nat):Int)+1) (by omega)] <| .e (chain [.b 6 (.of_eq rfl:Bx.le (.cells 41 (aF (bj (iA y p x) (bT (aV (b7 y p x) y p) (aN (((x+1):Nat):Int)) p) p))) (.cells 41 (aF (iA y p (x+1))))),
  .b 5 (.of_eq rfl:Bx.le (.cells 41 (aF (bT (aV (b7 y p x) y p) (aN (((x+1):Nat):Int)) p))) (.cells 41 (aF (b7 y p (x+1)))))] <| .nil)) (by kernel_rfl))
  (fun hx=>by
    exact aB (chain [.c (uT _ _ _ ‹_› ‹_› (by omega) (by omega):ae 310 [(.agg [(iP p)]),(ai (b7 y p n)),(ai y)] _),.c (j9 _ (by omega):ae 303 [(iP (((n+1):Nat):Int))] _),
    .c (rM _ _ _ ‹_› ‹_› (by omega) (by omega):ae 307 [(.agg [(iP p)]),(ai (aV (b7 y p n) y p)),(ai (aN (((n+1):Nat):Int)))] _),
    .c (mY _ _ _ ‹_› ‹_› (by omega) (by omega):ae 308 [(.agg [(iP p)]),(ai (iA y p n)),(ai (bT (aV (b7 y p n) y p) (aN (((n+1):Nat):Int)) p))] _),
    .c (uU _ _ ‹_› (by omega) (by omega):ae 322 [(.agg [(iP p)]),(ai (bT (aV (b7 y p n) y p) (aN (((n+1):Nat):Int)) p))] _),
    tB 26 (hN:(eh (bT (aV (b7 y p n) y p) (aN (((n+1):Nat):Int)) p) p)=true)] <| .nil) (by kernel_rfl)) (by nofun):bD 4 Tryz.f320 (GD y p n 0) (.exit 0) ⟨32,true,[(6,.box 6 0),(5,.box 5 0),(4,.box 4 0),(2,.box 2 0)],[(6,.cells 41 (aF (bj (iA y p n) (bT (aV (b7 y p n) y p) (aN (((n+1):Nat):Int)) p) p))),(5,.cells 41 (aF (bT (aV (b7 y p n) y p) (aN (((n+1):Nat):Int)) p))),(4,.cells 41 [(bP false),(.v (.slice none 0 0)),(iP 0),(bP false),(.v (.slice none 0 0)),(iP 0),(bP false)]),(2,.cells 201 [(iP p)])]⟩) (chain [.o 7 (.int (by first|rfl|omega|(simp only[Nat.add_mul,Nat.one_mul];omega)):PV.le (.e (iP 1)) (.e (iP (((0+1):Nat):Int)))),.b 6 (.of_eq rfl:Bx.le (.cells 41 (aF (aN 1))) (.cells 41 (aF (iA y p 0)))),
  .b 5 (.of_eq rfl:Bx.le (.cells 41 (aF (aN 1))) (.cells 41 (aF (b7 y p 0))))] <| .nil),
  .c (GO _ ‹_›:ae 323 [(ai (bT (aV (b7 y p n) y p) (aN (((n+1):Nat):Int)) p))] _),
  .c (mY _ _ _ ‹_› ‹_› (by omega) (by omega):ae 308 [(.agg [(iP p)]),(ai (bj (iA y p n) (bT (aV (b7 y p n) y p) (aN (((n+1):Nat):Int)) p) p)),(ai (fH (bT (aV (b7 y p n) y p) (aN (((n+1):Nat):Int)) p)))] _)]<|rR (ai (kY y p (n+1))) (.of_eq rfl:E.le (ai (bj (bj (iA y p n) (bT (aV (b7 y p n) y p) (aN (((n+1):Nat):Int)) p) p) (fH (bT (aV (b7 y p n) y p) (aN (((n+1):Nat):Int)) p)) p)) (ai (kY y p (n+1))))) (by kernel_rfl)
theorem Tn{y:Iv}(hy:y.Valid)(hb:y.all=true\/Sub y (eE (-1))){p:Nat}(hp1:8<=p)(hp2:p<=512):∃ Z,Z.Valid/\(∀ r,y.has r->dW (EQ r) Z)/\ae 320 [.agg [iP (p:Int)],ai y] (ai Z):=by
 obtain⟨N,h1,h2,h3,h4⟩:=LN hy hb hp1 hp2;obtain⟨n,rfl⟩:∃ n,N=n+1:=⟨N-1,by omega⟩
 exact⟨kY y p (n+1),LM hy hp1 hp2 _,fun r hr=>LL hy hr hb hp1 hp2 h1 h2,Tm y p n hy hp1 hp2 (by omega) (fun x hx=>h3 (x+1) (by omega) (by omega)) h4⟩
theorem Tp(y Z:Iv)(p:Nat)(hExp:ae 320 [.agg [iP (p:Int)],ai y] (ai Z)):ae 306 [(.agg [(iP p)]),(ai y),(iP 0)] (ai Z):=by
 exact tr true Tryz.call306 Tryz.func306 (chain [tB 8 (by decide:((0:Int)==0)=true),.c (hExp:ae 320 [(.agg [(iP p)]),(ai y)] _)] <| .nil) (by kernel_rfl)
theorem To(y Z:Iv)(p n:Nat)(hy:y.Valid)(hZ:Z.Valid)(hn:n<=1000)(hH:ae 306 [.agg [iP (p:Int)],ai (c9 y (-1)),iP (n:Int)] (ai Z))(hp1:8<=p)(hp2:p<=512):ae 306 [(.agg [(iP p)]),(ai y),(iP (((n+1):Nat):Int))] (ai (dV Z p)):=by
 exact tr true Tryz.call306 Tryz.func306 (chain [tB 8 (dZ (by omega):((((n+1):Nat):Int)==0)=false),.c (vt _ ‹_› _ (by omega) (by omega):ae 259 [(ai y),(iP (-1))] _),ar ((((n+1):Nat):Int)-1) (by omega),
  .c (by rw[show(((n+1:Nat):Int)-1)=(n:Int)by omega];exact hH:ae 306 [(.agg [(iP p)]),(ai (c9 y (-1))),(iP ((((n+1):Nat):Int)-1))] (ai Z)),
  .c (AH _ ‹_› _ (by omega) (by omega):ae 321 [(ai Z),(iP p)] _)] <| .nil) (by kernel_rfl)
theorem GF{p:Nat}(hp1:8<=p)(hp2:p<=512):∀ (n:Nat) {y:Iv},n<=500->y.Valid->(y.all=true\/Sub y (eE ((n:Int)-1)))->∃ Z,Z.Valid/\(∀ r,y.has r->dW (EQ r) Z)/\ae 306 [.agg [iP (p:Int)],ai y,iP (n:Int)] (ai Z)
 | 0,y,_,hy,hb=>by
  obtain⟨Z,h1,h2,h3⟩:=Tn hy (by simpa using hb) hp1 hp2;exact⟨Z,h1,h2,Tp y Z p h3⟩
 | n+1,y,hn,hy,hb=>by
  have hs:=uy hy (-1);have hb':(c9 y (-1)).all=true\/Sub (c9 y (-1)) (eE ((n:Int)-1)):=by
   rcases hb with hb|hb
   .left;unfold c9;rw[if_pos hb];rfl
   .have:=RR hb
    rwa[show(((n+1:Nat):Int)-1-1)=(n:Int)-1 by omega]at this
  obtain⟨Z,h1,h2,h3⟩:=GF hp1 hp2 n (by omega) hs hb';exact⟨dV Z p,uD h1 (by omega) (by omega),fun r hr=>On h1 (h2 _ (yM hr (-1))) (by omega) (by omega),To y Z p n hy h1 (by omega) h3 hp1 hp2⟩
theorem zE(p m:Nat)(h1:p<=512)(h2:m<=1000):ae 304 [(iP p),(iP m)] (.agg [iP (((min (p+m) 512:Nat)):Int)]):=by
 exact tr true Tryz.call304 Tryz.func304 (chain [ar ((p:Int)+(m:Int)) (by omega),.o 8 (.int (by split<;>omega):PV.le (.e (iP (if 512<(((p+m):Nat):Int)then 512 else(((p+m):Nat):Int)))) (.e (iP (((min (p+m) 512):Nat):Int))))] <| .nil) (by kernel_rfl)
theorem TR(d:Dy)(p:Nat)(hd:d.Valid)(h0:d.sign=0)(hp1:8<=p)(hp2:p<=512):ae 282 [(ag d),(iP p)] (ai (aN 1)):=by
 exact tr true Tryz.call282 Tryz.func282 (chain [.c (dJ _ ‹_›:ae 35 [(ag d)] _),tB 9 (by rw[h0];rfl:((Dy.sign d)==0)=true),.c (j9 _ (by omega):ae 303 [(iP 1)] _)] <| .nil) (by kernel_rfl)
theorem rH{d:Dy}(hd:d.Valid):-100000<=d.top:=by
 unfold Dy.top;have:=hd.exp;split<;>omega
theorem SZ{d:Dy}(h:d.m=0):d.top=0:=by unfold Dy.top;rw[if_pos h]
theorem TP(d:Dy)(p:Nat)(Z:Iv)(hd:d.Valid)(h0:d.sign≠0)(ht:d.top<=100)(hZ:Z.Valid)(hH:ae 306 [.agg [iP ((((min (p+(((d.top+1).toNat)+24)) 512):Nat)):Int)],ai (cr (cF d) (min (p+(((d.top+1).toNat)+24)) 512)),iP (((((d.top+1).toNat):Nat)):Int)] (ai Z))(hp1:8<=p)(hp2:p<=512):ae 282 [(ag d),(iP p)] (ai (cr Z p)):=by
 have ht2:-100000<=d.top:=rH hd;have vp:=jF hd;exact tr true Tryz.call282 Tryz.func282 (chain [.c (dJ _ ‹_›:ae 35 [(ag d)] _),tB 9 (by simpa using h0:((Dy.sign d)==0)=false),.c (bR _ ‹_›:ae 130 [(ag d)] _),ar ((Dy.top d)+1) (by omega),
  .o 14 (.int (by split<;>omega):PV.le (.e (iP (if 0>((Dy.top d)+1)then 0 else((Dy.top d)+1)))) (.e (iP ((((d.top+1).toNat):Nat):Int)))),ar (((((d.top+1).toNat):Nat):Int)+24) (by omega),
  .c (zE _ _ (by omega) (by omega):ae 304 [(iP p),(iP (((((d.top+1).toNat)+24):Nat):Int))] _),.c (o9 d ‹_›),
  .c (pU _ ‹_› _ (by omega) (by omega):ae 305 [(ai (cF d)),(iP (((min (p+(((d.top+1).toNat)+24)) 512):Nat):Int))] _),
  .c (hH:ae 306 [(.agg [(iP (((min (p+(((d.top+1).toNat)+24)) 512):Nat):Int))]),(ai (cr (cF d) (min (p+(((d.top+1).toNat)+24)) 512))),(iP ((((d.top+1).toNat):Nat):Int))] _),
  .c (pU _ ‹_› _ (by omega) (by omega):ae 305 [(ai Z),(iP p)] _)] <| .nil) (by kernel_rfl)
theorem R4{d:Dy}(h:d.sign≠0):d.m≠0:=fun q=>h (by unfold Dy.sign;rw[if_pos q])
theorem GR{d:Dy}(hd:d.Valid)(ht:d.top<=100){p:Nat}(hp1:8<=p)(hp2:p<=512):∃ Z,Z.Valid/\dW (EQ d.q) Z/\ae 282 [ag d,iP (p:Int)] (ai Z):=by
 by_cases h0:d.sign=0
 .refine ⟨aN 1,jC (by decide),?_,TR d p hd h0 hp1 hp2⟩
  have hq:d.q=0:=by
   have h1:=gl d;rw[h0]at h1;have a:=h1.1.2;have b:=h1.2.2;have:¬0<d.q:=fun q=>absurd (a q) (by decide)
   have:¬d.q<0:=fun q=>absurd (b q) (by decide)
   grind
  rw[hq];exact dW.xK (k:=0) fun N _=>by rw[G4];exact lr 1
 .have hm:=R4 h0
  obtain⟨P,hP⟩:∃ P,P=min (p+((d.top+1).toNat+24)) 512:=⟨_,rfl⟩
  have hb:=LI hd hm (p:=P) (by omega) (by omega) (n:=(((d.top+1).toNat:Nat):Int)-1) (by omega) (by omega) (by omega);obtain⟨Z,h1,h2,h3⟩:=GF (p:=P) (by omega) (by omega) ((d.top+1).toNat) (by omega) (pA (jF hd) (by omega) (by omega)) (.inr hb);subst hP;refine⟨cr Z p,pA h1 (by omega) (by omega),?_,TP d p Z hd h0 ht h1 h3 hp1 hp2⟩
  have hl:=h2 _ (rz (jF hd) (by omega) (by omega) (xU d));exact Oq hl fun r hr=>rz h1 (by omega) (by omega) hr
theorem GP(a b:Iv)(ha:a.Valid)(hb:b.Valid):ae 281 [(ai a),(ai b)] (ai (iO a b)):=by
 exact tr true Tryz.call281 Tryz.func281 (.w (a.all=true)
  (fun k1=>chain [tB 6 (k1),.c du]<|rQ (ai aj) (ai (iO a b)) (by unfold iO;simp[k1]))
  (fun k1=>chain [tB 6 (Bool.eq_false_iff.2 k1)] <| .w (b.all=true)
   (fun k2=>chain [tB 9 (k2),.c du]<|rQ (ai aj) (ai (iO a b)) (by unfold iO;simp[k1,k2]))
   (fun k2=>chain [tB 9 (Bool.eq_false_iff.2 k2)]<|rQ (ai (Iv.mk a.lo b.hi false)) (ai (iO a b)) (by unfold iO;simp[k1,k2])))) (by kernel_rfl)
def ij(d:Dy):Bool:=decide (aD (cE d) (az 1000)<=0)
theorem rS(d:Dy)(hd:d.Valid):ae 280 [(ag d)] (bP (ij d)):=by
 have ha:=kP hd;have hi:(az 1000).Valid:=dD (by decide);exact tr true Tryz.call280 Tryz.func280 (chain [.c (ql d ‹_›),.c (dB _ (by omega):ae 113 [(iP 1000)] _),.c (b9 _ _ ‹_› ‹_›:ae 37 [(ag (cE d)),(ag (az 1000))] _)] <| .nil) (by kernel_rfl)
theorem og(x:Iv)(p:Nat)(hx:x.Valid)(hp1:8<=p)(hp2:p<=512):ae 279 [(ai x),(iP p)] (bP (!x.all)):=by
 exact tr true Tryz.call279 Tryz.func279 (.w (x.all=true)
  (fun k1=>chain [tB 6 (k1)]<|rQ (bP false) (bP (!x.all)) (by simp[k1]))
  (fun k1=>chain [tB 6 (Bool.eq_false_iff.2 k1),.c (dc x ‹_›),tT 14 (8<=(p:Int)) (by omega),tT 18 ((p:Int)<=512) (by omega)]<|rQ (bP true) (bP (!x.all)) (by simp[k1]))) (by kernel_rfl)
theorem TD(x:Iv)(p:Nat)(hx:x.Valid)(hp1:8<=p)(hp2:p<=512)(xa:x.all=true):ae 242 [(ai x),(iP p)] (ai aj):=by
 exact tr true Tryz.call242 Tryz.func242 (chain [.c (og _ _ ‹_› (by omega) (by omega):ae 279 [(ai x),(iP p)] _),tB 7 (by rw[xa];rfl:(!x.all)=false),.c du] <| .nil) (by kernel_rfl)
theorem TG(x:Iv)(p:Nat)(hx:x.Valid)(hp1:8<=p)(hp2:p<=512)(xa:x.all=false)(h1:ij x.lo=false):ae 242 [(ai x),(iP p)] (ai aj):=by
 obtain⟨w1,w2⟩:=hx.ends;exact tr true Tryz.call242 Tryz.func242 (chain [.c (og _ _ ‹_› (by omega) (by omega):ae 279 [(ai x),(iP p)] _),tB 7 (by rw[xa];rfl:(!x.all)=true),.c (rS _ ‹_›:ae 280 [(ag x.lo)] _),
  tB 12 (h1:(ij x.lo)=false),.c du] <| .nil) (by kernel_rfl)
theorem TE(x:Iv)(p:Nat)(hx:x.Valid)(hp1:8<=p)(hp2:p<=512)(xa:x.all=false)(h1:ij x.lo=true)(h2:ij x.hi=false):ae 242 [(ai x),(iP p)] (ai aj):=by
 obtain⟨w1,w2⟩:=hx.ends;exact tr true Tryz.call242 Tryz.func242 (chain [.c (og _ _ ‹_› (by omega) (by omega):ae 279 [(ai x),(iP p)] _),tB 7 (by rw[xa];rfl:(!x.all)=true),.c (rS _ ‹_›:ae 280 [(ag x.lo)] _),tB 12 (h1:(ij x.lo)=true),
  .c (rS _ ‹_›:ae 280 [(ag x.hi)] _),tB 18 (h2:(ij x.hi)=false),.c du] <| .nil) (by kernel_rfl)
theorem TF(x:Iv)(p:Nat)(hx:x.Valid)(hp1:8<=p)(hp2:p<=512)(xa:x.all=false)(h1:ij x.lo=true)(h2:ij x.hi=true)(Z1 Z2:Iv)(z1:Z1.Valid)(z2:Z2.Valid)(k1:ae 282 [ag x.lo,iP (p:Int)] (ai Z1))(k2:ae 282 [ag x.hi,iP (p:Int)] (ai Z2)):ae 242 [(ai x),(iP p)] (ai (iO Z1 Z2)):=by
 obtain⟨w1,w2⟩:=hx.ends;exact tr true Tryz.call242 Tryz.func242 (chain [.c (og _ _ ‹_› (by omega) (by omega):ae 279 [(ai x),(iP p)] _),tB 7 (by rw[xa];rfl:(!x.all)=true),.c (rS _ ‹_›:ae 280 [(ag x.lo)] _),tB 12 (h1:(ij x.lo)=true),
  .c (rS _ ‹_›:ae 280 [(ag x.hi)] _),tB 18 (h2:(ij x.hi)=true),.c (k1:ae 282 [(ag x.lo),(iP p)] _),.c (k2:ae 282 [(ag x.hi),(iP p)] _),
  .c (GP _ _ ‹_› ‹_›:ae 281 [(ai Z1),(ai Z2)] _)] <| .nil) (by kernel_rfl)
theorem DH{d:Dy}(hd:d.Valid)(h:ij d=true):d.top<=100:=by
 by_cases h0:d.m=0
 .rw [SZ h0];decide
 .unfold ij at h
  rw[decide_eq_true_eq,eI,mK]at h;have hq:=lF d;have ha:aE d.q<=P2 10:=by
   have:P2 10=1024:=by decide +kernel
   rw[this];have h1000:((1000:Int):Rat)=1000:=rfl;rw[h1000]at h;exact jM (by grind) (by grind)
  have:=Gr h0 ha;omega
theorem Ce{a b:Iv}(ha:a.Valid)(hb:b.Valid)(h:a.all=false->b.all=false->a.lo.q<=b.hi.q):(iO a b).Valid:=by
 unfold iO;cases xa:a.all
 .cases xb:b.all
  .exact .inr ⟨rfl,ha.ends.1,hb.ends.2,(eI _ _).2 (h xa xb)⟩
  .exact cC
 .exact cC
theorem zD{x:Iv}(hx:x.Valid){p:Nat}(hp1:8<=p)(hp2:p<=512):∃ Z,Z.Valid/\ae 242 [ai x,iP (p:Int)] (ai Z):=by
 cases xa:x.all with
 | true=>exact⟨aj,cC,TD x p hx hp1 hp2 xa⟩
 | false =>
  cases h1:ij x.lo with
  | false=>exact⟨aj,cC,TG x p hx hp1 hp2 xa h1⟩
  | true =>
   cases h2:ij x.hi with
   | false=>exact⟨aj,cC,TE x p hx hp1 hp2 xa h1 h2⟩
   | true =>
    obtain⟨w1,w2⟩:=hx.ends;obtain⟨Z1,z1,l1,k1⟩:=GR w1 (DH w1 h1) hp1 hp2;obtain⟨Z2,z2,l2,k2⟩:=GR w2 (DH w2 h2) hp1 hp2;exact⟨iO Z1 Z2,Ce z1 z2 fun a b=>Oo l1 l2 (fun ε hε=>GY hx.q hε) a b,TF x p hx hp1 hp2 xa h1 h2 Z1 Z2 z1 z2 k1 k2⟩
open Go.RowKit Fp Pu
def GG(z:Iv)(p N:Nat)(x:Nat):PS:=⟨39,true,[(8,.e (iP (((2*x+3):Nat):Int))),(7,.box 7 0),(6,.box 6 0),(5,.box 5 0),(4,.box 4 0),(2,.box 2 0)],[(7,.cells 41 (aF (iT z p x))),(6,.cells 41 (aF (dK z p x))),(5,.cells 41 (aF (dV z p))),(4,.cells 41 [(bP false),(.v (.slice none 0 0)),(iP 0),(bP false),(.v (.slice none 0 0)),(iP 0),(bP false)]),(2,.cells 201 [(iP p)])]⟩
theorem Ts(z:Iv)(p N:Nat)(hz:z.Valid)(hp1:8<=p)(hp2:p<=512)(h2:N<=1000)(hlo:∀ x,x<N->eh (dK z p x) p=false)(hN:eh (dK z p N) p=true):ae 309 [(.agg [(iP p)]),(ai z)] (ai (pd z p N)):=by
 have hsq:=uD hz (show 1<=p by omega) (show p<=4096 by omega);have t0:=kA hz hp1 hp2 N;have s0:=nF hz hp1 hp2 N;have r0:=oA t0;have a0:=gO s0 r0 (show 1<=p by omega) (show p<=4096 by omega);exact tr true Tryz.call309 Tryz.func309 (chain [.c (AH _ ‹_› _ (by omega) (by omega):ae 321 [(ai z),(iP p)] _),
  .s (Sp.upto (GG z p N) 0 N (by omega) (fun x hx hltx=>by
    have t0:=kA hz hp1 hp2 x;have s0:=nF hz hp1 hp2 x;have q0:(aV (dK z p x) (dV z p) p).Valid:=iG _ _ (by omega) (by omega);have n1:(aN (((2*x+3:Nat)):Int)).Valid:=nL _ (by omega);have d1:(bT (aV (dK z p x) (dV z p) p) (aN (((2*x+3:Nat)):Int)) p).Valid:=jP _ _ (by omega) (by omega)
    exact aB (chain [.c (uU p (dK z p x) ‹_› (by omega) (by omega)),tB 17 (hlo x (by omega):(eh (dK z p x) p)=false),.c (uT p (dK z p x) (dV z p) ‹_› ‹_› (by omega) (by omega)),
     .c (j9 (((2*x+3):Nat):Int) (by omega)),.c (rM p (aV (dK z p x) (dV z p) p) (aN (((2*x+3):Nat):Int)) ‹_› ‹_› (by omega) (by omega)),
     .c (mY p (iT z p x) (bT (aV (dK z p x) (dV z p) p) (aN (((2*x+3):Nat):Int)) p) ‹_› ‹_› (by omega) (by omega)),ar ((((2*x+3):Nat):Int)+2) (by omega)] <| .e (chain [.o 8 (.int (by first|rfl|omega|(simp only[Nat.add_mul,Nat.one_mul];omega)):PV.le (.e (iP ((((2*x+3)+2):Nat):Int))) (.e (iP (((2*(x+1)+3):Nat):Int)))),
  .b 7 (.of_eq rfl:Bx.le (.cells 41 (aF (bj (iT z p x) (bT (aV (dK z p x) (dV z p) p) (aN (((2*x+3):Nat):Int)) p) p))) (.cells 41 (aF (iT z p (x+1))))),
  .b 6 (.of_eq rfl:Bx.le (.cells 41 (aF (aV (dK z p x) (dV z p) p))) (.cells 41 (aF (dK z p (x+1)))))] <| .nil)) (by kernel_rfl))
  (fun hx=>by
    have t0:=kA hz hp1 hp2 N;have s0:=nF hz hp1 hp2 N;have q0:(aV (dK z p N) (dV z p) p).Valid:=iG _ _ (by omega) (by omega);have n1:(aN (((2*N+3:Nat)):Int)).Valid:=nL _ (by omega);have d1:(bT (aV (dK z p N) (dV z p) p) (aN (((2*N+3:Nat)):Int)) p).Valid:=jP _ _ (by omega) (by omega)
    exact aB (chain [.c (uU p (dK z p N) ‹_› (by omega) (by omega)),tB 17 (hN:(eh (dK z p N) p)=true)] <| .nil) (by kernel_rfl)) (by nofun):bD 4 Tryz.f309 (GG z p N 0) (.exit 0) ⟨39,true,[(7,.box 7 0),(6,.box 6 0),(4,.box 4 0),(2,.box 2 0)],[(7,.cells 41 (aF (iT z p N))),(6,.cells 41 (aF (dK z p N))),(4,.cells 41 [(bP false),(.v (.slice none 0 0)),(iP 0),(bP false),(.v (.slice none 0 0)),(iP 0),(bP false)]),(2,.cells 201 [(iP p)])]⟩) (chain [.o 8 (.int (by first|rfl|omega|(simp only[Nat.add_mul,Nat.one_mul];omega)):PV.le (.e (iP 3)) (.e (iP (((2*0+3):Nat):Int)))),.b 7 (.of_eq rfl:Bx.le (.cells 41 (aF z)) (.cells 41 (aF (iT z p 0)))),
  .b 6 (.of_eq rfl:Bx.le (.cells 41 (aF z)) (.cells 41 (aF (dK z p 0))))] <| .nil),
  .c (GO _ ‹_›:ae 323 [(ai (dK z p N))] _),.c (mY p (iT z p N) (fH (dK z p N)) ‹_› ‹_› (by omega) (by omega)),
  .c (vt (bj (iT z p N) (fH (dK z p N)) p) ‹_› 1 (by omega) (by omega))]<|rR (ai (pd z p N)) (.refl _:E.le (ai (c9 (bj (iT z p N) (fH (dK z p N)) p) 1)) (ai (pd z p N)))) (by kernel_rfl)
def oh(f:Nat->Rat)(X:Iv):Prop:=∃ N0,∀ M,N0<=M->X.has (f M)
theorem oh.mono{f:Nat->Rat}{X Y:Iv}(h:oh f X)(k:∀ r,X.has r->Y.has r):oh f Y:=h.imp fun _ h M hM=>k _ (h M hM)
theorem GH{z:Iv}(hz:z.Valid)(hb:z.all=true\/Sub z (eE (-1))){p:Nat}(hp1:8<=p)(hp2:p<=512):∃ Z,Z.Valid/\(∀ r,z.has r->aE r*2<=1->oh (fun M=>AQ r M*2) Z)/\ae 309 [(.agg [(iP p)]),(ai z)] (ai Z):=by
 obtain⟨N,h1,h2,h3⟩:=Om hz hb hp1 hp2;exact⟨pd z p N,Ol hz hp1 hp2 N,fun r hr ha=>⟨N,fun M hM=>Oj hz hr ha hp1 hp2 h1 M hM⟩,Ts z p N hz hp1 hp2 h1 h2 h3⟩
theorem SU{p:Nat}(hp1:8<=p)(hp2:p<=512):(bT (aN 1) (aN 3) p).Valid/\(bT (aN 1) (aN 3) p).has (1/3)/\Sub (bT (aN 1) (aN 3) p) (eE (-1)):=by
 have v1:(aN 1).Valid:=jC (by decide);have v3:(aN 3).Valid:=jC (by decide);have h1:=lr 1;have h3:=lr 3;refine⟨jP _ _ (by omega) (by omega),?_,?_⟩
 .have:=sL v1 v3 (p:=p) (by omega) (by omega) h1 h3
  rwa[show((1:Int):Rat)/((3:Int):Rat)=1/3 from rfl]at this
 .have hs:dw (aN 3)≠0:=yT rfl (.inl (by show 0<(az 3).q;rw[mK];decide))
  refine pW (sK v1 v3 rfl hs (p:=p) (by omega) (by omega)) (by omega) (by decide) (by decide) ?_;rintro r ⟨a,b,ha,hb,rfl⟩;obtain⟨a1,a2⟩:=ha.ends rfl;obtain⟨b1,b2⟩:=hb.ends rfl;change (az 1).q<=a at a1;change a<=(az 1).q at a2;change (az 3).q<=b at b1;change b<=(az 3).q at b2;rw[mK]at a1 a2 b1 b2;have ea:a=1:=Rat.le_antisymm a2 a1;have eb:b=3:=Rat.le_antisymm b2 b1
  subst ea eb;have:P2 (-1)=1/2:=by decide +kernel
  rw[this];exact⟨by decide +kernel,by decide +kernel⟩
theorem TJ(p:Nat)(Z:Iv)(hZ:Z.Valid)(hL:ae 309 [.agg [iP ((((min (p+16) 512):Nat)):Int)],ai (bT (aN 1) (aN 3) (min (p+16) 512))] (ai Z))(hp1:8<=p)(hp2:p<=512):ae 311 [(iP p)] (ai (cr Z p)):=by
 have v1:(aN 1).Valid:=jC (by decide);have v3:(aN 3).Valid:=jC (by decide);exact tr true Tryz.call311 Tryz.func311 (chain [tF 5 ((p:Int)<8) (by omega),tF 8 (512<(p:Int)) (by omega),.c (zE p 16 (by omega) (by omega)),.c (j9 1 (by omega)),.c (j9 3 (by omega)),
  .c (rM (min (p+16) 512) (aN 1) (aN 3) ‹_› ‹_› (by omega) (by omega)),.c (hL:ae 309 [(.agg [(iP (((min (p+16) 512):Nat):Int))]),(ai (bT (aN 1) (aN 3) (min (p+16) 512)))] _),
  .c (pU Z ‹_› p (by omega) (by omega))] <| .nil) (by kernel_rfl)
theorem TH{p:Nat}(hp1:8<=p)(hp2:p<=512):∃ Z,Z.Valid/\oh (fun M=>AQ (1/3) M*2) Z/\ae 311 [iP (p:Int)] (ai Z):=by
 obtain⟨t1,t2,t3⟩:=SU (p:=min (p+16) 512) (by omega) (by omega);obtain⟨Z,h1,h2,h3⟩:=GH t1 (.inr t3) (p:=min (p+16) 512) (by omega) (by omega);refine⟨cr Z p,pA h1 (by omega) (by omega),(h2 _ t2 (by decide +kernel)).mono fun r hr=>rz h1 (by omega) (by omega) hr,TJ p Z h1 h3 hp1 hp2⟩
def ke:Iv:=⟨aT,aT,false⟩
theorem GS:E.le (.agg [bP false,.v (.slice none 0 0),iP 0,bP false,.v (.slice none 0 0),iP 0,bP false]) (ai ke) :=
 .agg (.cons (.refl _) (.cons nK (.cons (.refl _) (.cons (.refl _) (.cons nK (.cons (.refl _) (.cons (.refl _) .nil)))))))
theorem TN(d:Dy)(p:Nat)(hd:d.Valid)(h1:aD d ⟨false,1,0⟩=0)(hp1:8<=p)(hp2:p<=512):ae 283 [(ag d),(iP p)] (ai ke):=by
 have v1:=po;exact tr true Tryz.call283 Tryz.func283 (chain [.c (vo:ae 113 [(iP 1)] _),.c (b9 _ _ ‹_› ‹_›:ae 37 [(ag d),(ag (Dy.mk false 1 0))] _),tB 12 (by rw[h1];rfl:((aD d (Dy.mk false 1 0))==0)=true)]<|rR (ai ke) (GS:E.le (.agg [(bP false),(.v (.slice none 0 0)),(iP 0),(bP false),(.v (.slice none 0 0)),(iP 0),(bP false)]) (ai ke))) (by kernel_rfl)
theorem TO(d:Dy)(p:Nat)(Z Y:Iv)(hd:d.Valid)(h1:¬aD d ⟨false,1,0⟩=0)(ht1:-20000<=d.top)(ht2:d.top<=20000)(hZ:Z.Valid)(hY:Y.Valid)(hL:ae 309 [.agg [iP ((((min (p+40) 512):Nat)):Int)],ai (bT (bj (c9 (cr (cF d) (min (p+40) 512)) (0-(Dy.top d))) (aN (-1)) (min (p+40) 512)) (bj (c9 (cr (cF d) (min (p+40) 512)) (0-(Dy.top d))) (aN 1) (min (p+40) 512)) (min (p+40) 512))] (ai Z))(hL2:ae 311 [iP ((((min (p+40) 512):Nat)):Int)] (ai Y))(hp1:8<=p)(hp2:p<=512):ae 283 [(ag d),(iP p)] (ai (cr (bj Z (aV (aN d.top) Y (min (p+40) 512)) (min (p+40) 512)) p)):=by
 have v1:=po;have vp:=jF hd;have vr:(cr (cF d) (min (p+40) 512)).Valid:=pA vp (by omega) (by omega);have vs:(c9 (cr (cF d) (min (p+40) 512)) (0-(Dy.top d))).Valid:=uy vr _;have n1:(aN 1).Valid:=jC (by decide);have n2:(aN (-1)).Valid:=jC (by decide)
 have a1:(bj (c9 (cr (cF d) (min (p+40) 512)) (0-(Dy.top d))) (aN (-1)) (min (p+40) 512)).Valid:=gO vs n2 (by omega) (by omega);have a2:(bj (c9 (cr (cF d) (min (p+40) 512)) (0-(Dy.top d))) (aN 1) (min (p+40) 512)).Valid:=gO vs n1 (by omega) (by omega)
 have a3:(bT (bj (c9 (cr (cF d) (min (p+40) 512)) (0-(Dy.top d))) (aN (-1)) (min (p+40) 512)) (bj (c9 (cr (cF d) (min (p+40) 512)) (0-(Dy.top d))) (aN 1) (min (p+40) 512)) (min (p+40) 512)).Valid:=jP _ _ (by omega) (by omega);have nt:(aN d.top).Valid:=jC (by omega)
 have m1:(aV (aN d.top) Y (min (p+40) 512)).Valid:=iG _ _ (by omega) (by omega);have m2:(bj Z (aV (aN d.top) Y (min (p+40) 512)) (min (p+40) 512)).Valid:=gO hZ m1 (by omega) (by omega)
 exact tr true Tryz.call283 Tryz.func283 (chain [.c (vo:ae 113 [(iP 1)] _),.c (b9 _ _ ‹_› ‹_›:ae 37 [(ag d),(ag (Dy.mk false 1 0))] _),tB 12 (by simpa using h1:((aD d (Dy.mk false 1 0))==0)=false),
  .c (zE p 40 (by omega) (by omega)),.c (bR _ ‹_›:ae 130 [(ag d)] _),.c (o9 d ‹_›),.c (pU (cF d) ‹_› (min (p+40) 512) (by omega) (by omega)),
  ar (0-(Dy.top d)) (by omega),.c (vt (cr (cF d) (min (p+40) 512)) ‹_› (0-(Dy.top d)) (by omega) (by omega)),.c (j9 (-1) (by omega)),
  .c (mY (min (p+40) 512) (c9 (cr (cF d) (min (p+40) 512)) (0-(Dy.top d))) (aN (-1)) ‹_› ‹_› (by omega) (by omega)),.c (j9 1 (by omega)),
  .c (mY (min (p+40) 512) (c9 (cr (cF d) (min (p+40) 512)) (0-(Dy.top d))) (aN 1) ‹_› ‹_› (by omega) (by omega)),
  .c (rM (min (p+40) 512) (bj (c9 (cr (cF d) (min (p+40) 512)) (0-(Dy.top d))) (aN (-1)) (min (p+40) 512)) (bj (c9 (cr (cF d) (min (p+40) 512)) (0-(Dy.top d))) (aN 1) (min (p+40) 512)) ‹_› ‹_› (by omega) (by omega)),
  .c (hL:ae 309 [(.agg [(iP (((min (p+40) 512):Nat):Int))]),(ai (bT (bj (c9 (cr (cF d) (min (p+40) 512)) (0-(Dy.top d))) (aN (-1)) (min (p+40) 512)) (bj (c9 (cr (cF d) (min (p+40) 512)) (0-(Dy.top d))) (aN 1) (min (p+40) 512)) (min (p+40) 512)))] _),
  .c (j9 (Dy.top d) (by omega)),.c (hL2:ae 311 [(iP (((min (p+40) 512):Nat):Int))] _),.c (uT (min (p+40) 512) (aN (Dy.top d)) Y ‹_› ‹_› (by omega) (by omega)),
  .c (mY (min (p+40) 512) Z (aV (aN (Dy.top d)) Y (min (p+40) 512)) ‹_› ‹_› (by omega) (by omega)),
  .c (pU (bj Z (aV (aN (Dy.top d)) Y (min (p+40) 512)) (min (p+40) 512)) ‹_› p (by omega) (by omega))] <| .nil) (by kernel_rfl)
theorem GQ{d:Dy}(hd:d.Valid)(hq:0<d.q){p:Nat}(hp1:8<=p)(hp2:p<=512):∃ Z,Z.Valid/\oh (LQ d) Z/\ae 283 [ag d,iP (p:Int)] (ai Z):=by
 by_cases h1:aD d ⟨false,1,0⟩=0
 .refine ⟨ke,.inr ⟨rfl,gL,gL,nE _⟩,⟨0,fun M _=>?_⟩,TN d p hd h1 hp1 hp2⟩
  have e:d=⟨false,1,0⟩:=by
   refine P3 hd.canon po.canon (Rat.le_antisymm ((eI _ _).1 (by omega)) ((eI _ _).1 ?_));rw[qb];have:=qb d ⟨false,1,0⟩;omega
  rw[e,G9];exact .inr ⟨by show aT.q<=0;rw[ik];exact Rat.le_refl,by show 0<=aT.q;rw[ik];exact Rat.le_refl⟩
 .have hm:=pq hq
  obtain⟨t1,t2⟩:=Gs hd hm;obtain⟨P,hP⟩:∃ P,P=min (p+40) 512:=⟨_,rfl⟩
  have p1:8<=P:=by omega
  have p2:P<=512:=by omega
  obtain⟨z1,z2,z3⟩:=OI hd hq p1 p2;obtain⟨Z,a1,a2,a3⟩:=GH z1 z3 p1 p2;obtain⟨Y,b1,b2,b3⟩:=TH p1 p2;have m1:(aV (aN d.top) Y P).Valid:=iG _ _ (by omega) (by omega);have m2:=gO a1 m1 (p:=P) (by omega) (by omega);refine⟨cr (bj Z (aV (aN d.top) Y P) P) p,pA m2 (by omega) (by omega),?_,?_⟩
  .have hz:=zI hq
   have ha:aE (lR d)*2<=1:=by
    have:=jM (x:=lR d) (b:=1/3) (by grind) (by grind)
    grind
   obtain⟨N1,c1⟩:=a2 _ z2 ha;obtain⟨N2,c2⟩:=b2;refine⟨max N1 N2,fun M hM=>rz m2 (by omega) (by omega) ?_⟩;exact mZ a1 m1 (by omega) (by omega) (c1 M (by omega)) (tG (jC (by omega)) b1 (by omega) (by omega) (lr d.top) (c2 M (by omega)))
  .subst hP
   have e:pf d (min (p+40) 512)=bT (bj (c9 (cr (cF d) (min (p+40) 512)) (0-(Dy.top d))) (aN (-1)) (min (p+40) 512)) (bj (c9 (cr (cF d) (min (p+40) 512)) (0-(Dy.top d))) (aN 1) (min (p+40) 512)) (min (p+40) 512):=by unfold pf iD;rw[show -d.top=0-d.top by omega]
   rw[e]at a3;exact TO d p Z Y hd h1 (by omega) (by omega) a1 b1 a3 b3 hp1 hp2
theorem TK(x:Iv)(p:Nat)(hx:x.Valid)(hp1:8<=p)(hp2:p<=512)(xa:x.all=true):ae 243 [(ai x),(iP p)] (ai aj):=by
 exact tr true Tryz.call243 Tryz.func243 (chain [.c (og x p ‹_› (by omega) (by omega)),tB 7 (by rw[xa];rfl:(!x.all)=false),.c du] <| .nil) (by kernel_rfl)
theorem TM(x:Iv)(p:Nat)(hx:x.Valid)(hp1:8<=p)(hp2:p<=512)(xa:x.all=false)(h1:x.lo.sign<=0):ae 243 [(ai x),(iP p)] (ai aj):=by
 obtain⟨w1,w2⟩:=hx.ends;exact tr true Tryz.call243 Tryz.func243 (chain [.c (og x p ‹_› (by omega) (by omega)),tB 7 (by rw[xa];rfl:(!x.all)=true),.c (dJ _ ‹_›:ae 35 [(ag x.lo)] _),tB 13 (decide_eq_true h1),.c du] <| .nil) (by kernel_rfl)
theorem TL(x:Iv)(p:Nat)(hx:x.Valid)(hp1:8<=p)(hp2:p<=512)(xa:x.all=false)(h1:¬x.lo.sign<=0)(Z1 Z2:Iv)(z1:Z1.Valid)(z2:Z2.Valid)(k1:ae 283 [ag x.lo,iP (p:Int)] (ai Z1))(k2:ae 283 [ag x.hi,iP (p:Int)] (ai Z2)):ae 243 [(ai x),(iP p)] (ai (iO Z1 Z2)):=by
 obtain⟨w1,w2⟩:=hx.ends;exact tr true Tryz.call243 Tryz.func243 (chain [.c (og x p ‹_› (by omega) (by omega)),tB 7 (by rw[xa];rfl:(!x.all)=true),.c (dJ _ ‹_›:ae 35 [(ag x.lo)] _),tB 13 (decide_eq_false h1),
  .c (k1:ae 283 [(ag x.lo),(iP p)] _),.c (k2:ae 283 [(ag x.hi),(iP p)] _),.c (GP Z1 Z2 ‹_› ‹_›)] <| .nil) (by kernel_rfl)
theorem zF{x:Iv}(hx:x.Valid){p:Nat}(hp1:8<=p)(hp2:p<=512):∃ Z,Z.Valid/\ae 243 [ai x,iP (p:Int)] (ai Z):=by
 cases xa:x.all with
 | true=>exact⟨aj,cC,TK x p hx hp1 hp2 xa⟩
 | false =>
  by_cases h1:x.lo.sign<=0
  .exact ⟨aj,cC,TM x p hx hp1 hp2 xa h1⟩
  .obtain ⟨w1,w2⟩:=hx.ends
   have q1:0<x.lo.q:=(gl _).1.1 (by omega);have q2:0<x.hi.q:=by have:=hx.q;grind
   obtain⟨Z1,z1,⟨N1,l1⟩,k1⟩:=GQ w1 q1 hp1 hp2;obtain⟨Z2,z2,⟨N2,l2⟩,k2⟩:=GQ w2 q2 hp1 hp2;refine⟨iO Z1 Z2,Ce z1 z2 fun a b=>?_,TL x p hx hp1 hp2 xa h1 Z1 Z2 z1 z2 k1 k2⟩;have e1:=((l1 (max N1 N2) (by omega)).ends a).1;have e2:=((l2 (max N1 N2) (by omega)).ends b).2;have e3:=G8 q1 hx.q (max N1 N2);exact Rat.le_trans e1 (Rat.le_trans e3 e2)
open Go.RowKit Fp Pu
def isRoot(a s:Nat):Prop:=s*s<=a/\a<(s+1)*(s+1)
theorem Fo(a:Nat):∃ s,isRoot a s:=by
 induction a with
 | zero=>exact⟨0,by decide,by decide⟩
 | succ a ih =>
  obtain⟨s,h1,h2⟩:=ih;by_cases h:(s+1)*(s+1)<=a+1
  .refine ⟨s+1,h,?_⟩
   have:(s+1+1)*(s+1+1)=(s+1)*(s+1)+2*(s+1)+1:=by
    simp only[Nat.add_mul,Nat.mul_add,Nat.one_mul,Nat.mul_one];omega
   omega
  .exact ⟨s,by omega,by omega⟩
theorem Rm{a s t:Nat}(h:isRoot a s)(ht:t*t<=a):t<=s:=by
 apply Classical.byContradiction;intro hlt;have:=Nat.mul_le_mul (show s+1<=t by omega) (show s+1<=t by omega);have:=h.2;omega
def eA(a x:Nat):Nat:=(x+a/x)/2
theorem Pj{a s x:Nat}(h:isRoot a s)(hx:0<x):s<=eA a x:=by
 unfold eA;apply Classical.byContradiction;intro hlt;have h1:x+a/x<2*s:=by generalize a/x=q at *;omega
 have h2:a<(a/x+1)*x:=by
  have:=Nat.div_add_mod a x;have:=Nat.mod_lt a hx;rw[Nat.add_mul,Nat.one_mul,Nat.mul_comm (a/x)];omega
 have hq:a/x+1<=2*s-x/\x<=2*s:=by
  generalize a/x=q at *
  omega
 have h3:(a/x+1)*x<=(2*s-x)*x:=Nat.mul_le_mul_right x hq.1;have hxs2:=hq.2;have h4:(2*s-x)*x<=s*s:=by
  obtain⟨k,hk⟩:∃ k,2*s=x+k:=⟨2*s-x,by clear h1 h2 h3 hlt hq;omega⟩
  rw[show 2*s-x=k by clear h1 h2 h3 hlt hq;omega];clear h1 h2 h3 hlt hq;rcases Nat.le_total x s with hxs|hxs
  .obtain ⟨e,rfl⟩:∃ e,s=x+e:=⟨s-x,by omega⟩
   obtain rfl:k=x+2*e:=by omega
   simp only[Nat.add_mul,Nat.mul_add,Nat.mul_comm x e,Nat.mul_assoc];have:0<=e*e:=Nat.zero_le _;have e1:e*(2*x)=2*(e*x):=Nat.mul_left_comm e 2 x;omega
  .obtain ⟨e,rfl⟩:∃ e,x=s+e:=⟨x-s,by omega⟩
   obtain⟨f,hf⟩:∃ f,s=k+f:=⟨s-k,by omega⟩
   obtain rfl:f=e:=by omega
   subst hf;simp only[Nat.add_mul,Nat.mul_add,Nat.mul_comm f k];have:0<=f*f:=Nat.zero_le _;omega
 have:=h.1;omega
theorem Ph{a s x:Nat}(h:isRoot a s)(hx:0<x)(hs:s<=x)(hy:x<=eA a x):x=s:=by
 have h1:x<=a/x:=by unfold eA at hy;omega
 have h2:x*x<=a:=(Nat.le_div_iff_mul_le hx).1 h1;have:=Rm h h2;omega
def bJ(a x:Nat):Nat->Nat
 | 0=>x
 | k+1=>eA a (bJ a x k)
theorem Rn(a:Nat){s:Nat}(h:isRoot a s):s<=2^((ak a+1)/2):=by
 apply Classical.byContradiction;intro hlt;have h1:(2^((ak a+1)/2))*(2^((ak a+1)/2))<=s*s:=Nat.mul_le_mul (by omega) (by omega);rw[<-Nat.pow_add]at h1;have h2:=gi a;have h3:2^ak a<=2^((ak a+1)/2+(ak a+1)/2):=Nat.pow_le_pow_right (by decide) (by omega);have:=h.1;omega
theorem Rl{a x s:Nat}(h:isRoot a s)(ha:0<a)(hx:s<=x):∃ N,N<=x/\(∀ k,k<N->eA a (bJ a x k)<bJ a x k)/\bJ a x N<=eA a (bJ a x N)/\bJ a x N=s/\∀ k,k<=N->s<=bJ a x k/\bJ a x k<=x:=by
 have hs:0<s:=by
  apply Classical.byContradiction;intro h0;obtain rfl:s=0:=by omega
  have:=h.2;omega
 have hge:∀ k,s<=bJ a x k:=fun k=>by
  induction k with
  | zero=>exact hx
  | succ k ih=>exact Pj h (by omega)
 have hex:∃ k,k<x+1/\decide (bJ a x k<=eA a (bJ a x k))=true:=by
  apply Classical.byContradiction;intro hc;have hd:∀ k,k<x+1->eA a (bJ a x k)<bJ a x k:=fun k hk=>by
   apply Classical.byContradiction;intro q;exact hc ⟨k,hk,decide_eq_true (by omega)⟩
  have hb:∀ k,k<=x+1->bJ a x k+k<=x:=by
   intro k hk
   induction k with
   | zero=>exact Nat.le_refl _
   | succ k ih =>
    have:=ih (by omega);have:=hd k (by omega);show eA a (bJ a x k)+(k+1)<=x;omega
  have:=hb (x+1) (Nat.le_refl _);omega
 obtain⟨N,n1,n2,n3⟩:=gF hex;have n2':=of_decide_eq_true n2;have hlt:∀ k,k<N->eA a (bJ a x k)<bJ a x k:=fun k hk=>by
  have:=of_decide_eq_false (n3 k hk);omega
 have hle:∀ k,k<=N->bJ a x k<=x:=by
  intro k hk
  induction k with
  | zero=>exact Nat.le_refl _
  | succ k ih =>
   have:=ih (by omega);have:=hlt k (by omega);show eA a (bJ a x k)<=x;omega
 have e:=Ph h (by have:=hge N;omega) (hge N) n2';exact⟨N,by omega,hlt,n2',e,fun k hk=>⟨hge k,hle k hk⟩⟩
open Go.RowKit Fp Pu
def jc(m s:Nat)(e:Int)(p:Nat)(up:Bool):Dy:=bn false s e (decide (s*s≠m)) p up
def lL(m s:Nat)(e:Int)(p:Nat)(up:Bool):Int:=bd false s e (decide (s*s≠m)) p up
theorem Se{m s:Nat}{e:Int}{p:Nat}(h:isRoot m s)(hb:p<ak s)(hp:1<=p)(hp2:p<=4096)(he:lL m s e p false=0):0<=(jc m s e p false).q/\(jc m s e p false).q<=(s:Rat)*P2 e:=by
 unfold jc lL at *
 by_cases hx:s*s=m
 .rw [decide_eq_false (by omega)]at he ⊢
  have A:=qf false s e hp hp2;rw[fU]at A;simp only[Bool.false_eq_true,if_false]at A;exact⟨(A.2 0 (.inl (lW p)) (Rat.mul_nonneg Rat.natCast_nonneg (Rat.le_of_lt (dt e)))).2,(A.1 he).2⟩
 .rw [decide_eq_true (by omega)]at he ⊢
  obtain⟨h1,h2⟩:=oJ e hb false false;rw[h1];rw[h2]at he;have A:=qf false (2*s+1) (e-1) hp hp2;rw[fU]at A;simp only[Bool.false_eq_true,if_false]at A;have h0:=(A.2 0 (.inl (lW p)) (Rat.mul_nonneg Rat.natCast_nonneg (Rat.le_of_lt (dt (e-1))))).2;obtain⟨g,hl⟩:=A.1 he;refine⟨h0,?_⟩;rcases wM (e:=e) hb (g.pos h0)with k|k
  .exact k
  .exfalso
   have ee:P2 e=P2 (e-1)*2:=by
    have:=fG (e-1) 1;rw[show e-1+1=e by omega,show P2 1=2 by decide +kernel]at this;exact this
   have hpp:=dt (e-1);have c1:((2*s+1:Nat):Rat)=2*(s:Rat)+1:=by rw[Rat.natCast_add,Rat.natCast_mul];rfl
   have c2:((s+1:Nat):Rat)=(s:Rat)+1:=by rw[Rat.natCast_add];rfl
   rw[c1]at hl;rw[c2,ee]at k
   grind
theorem Sd{m s:Nat}{e:Int}{p:Nat}(h:isRoot m s)(hb:p<ak s)(hp:1<=p)(hp2:p<=4096)(he:lL m s e p true=0):0<=(jc m s e p true).q/\(m:Rat)*(P2 e*P2 e)<=(jc m s e p true).q*(jc m s e p true).q:=by
 have hpp:=dt e;have s0:(0:Rat)<=(s:Rat):=Rat.natCast_nonneg;have key:∀ D:Rat,(s:Rat)*P2 e<=D->(s*s≠m->((s+1:Nat):Rat)*P2 e<=D)->0<=D/\(m:Rat)*(P2 e*P2 e)<=D*D:=by
  intro D h1 h2;have d0:0<=D:=Rat.le_trans (Rat.mul_nonneg s0 (Rat.le_of_lt hpp)) h1;refine⟨d0,?_⟩;have sq:∀ t:Nat,m<=t*t->(t:Rat)*P2 e<=D->(m:Rat)*(P2 e*P2 e)<=D*D:=by
   intro t ht hD;have t0:(0:Rat)<=(t:Rat):=Rat.natCast_nonneg;have c:(m:Rat)<=(t:Rat)*(t:Rat):=by
    have:=Rat.natCast_le_natCast.2 ht;rwa[Rat.natCast_mul]at this
   have m1:=Rat.mul_le_mul_of_nonneg_right c (Rat.mul_nonneg (Rat.le_of_lt hpp) (Rat.le_of_lt hpp));have m2:=Rat.mul_le_mul_of_nonneg_right hD (Rat.mul_nonneg t0 (Rat.le_of_lt hpp));have m3:=Rat.mul_le_mul_of_nonneg_left hD d0;generalize (t:Rat)=T at *
   generalize P2 e=P at *
   have e1:T*T*(P*P)=T*P*(T*P):=by grind
   grind
  by_cases hx:s*s=m
  .exact sq s (by omega) h1
  .exact sq (s+1) (by have:=h.2;omega) (h2 hx)
 unfold jc lL at *
 by_cases hx:s*s=m
 .rw [decide_eq_false (by omega)]at he ⊢
  have A:=qg false s e hp hp2;rw[fU]at A;simp only[Bool.false_eq_true,if_false]at A;exact key _ (A.1 he).2 (fun q=>absurd hx q)
 .rw [decide_eq_true (by omega)]at he ⊢
  obtain⟨h1,h2⟩:=oJ e hb false true;rw[h1];rw[h2]at he;have A:=qg false (2*s+1) (e-1) hp hp2;rw[fU]at A;simp only[Bool.false_eq_true,if_false]at A;obtain⟨g,hl⟩:=A.1 he;have ee:P2 e=P2 (e-1)*2:=by
   have:=fG (e-1) 1;rw[show e-1+1=e by omega,show P2 1=2 by decide +kernel]at this;exact this
  have hp1:=dt (e-1);have c1:((2*s+1:Nat):Rat)=2*(s:Rat)+1:=by rw[Rat.natCast_add,Rat.natCast_mul];rfl
  rw[c1]at hl;have h0:0<=(bn false (2*s+1) (e-1) false p true).q:=Rat.le_trans (Rat.mul_nonneg (by grind) (Rat.le_of_lt hp1)) hl;have hlt:(s:Rat)*P2 e<(bn false (2*s+1) (e-1) false p true).q:=by rw[ee];grind
  refine key _ (Rat.le_of_lt hlt) fun _=>?_
  rcases wM (e:=e) hb (g.pos h0)with k|k
  .exact absurd hlt (Rat.not_lt.2 k)
  .exact k
theorem Sf{a b:Rat}(ha:0<=a)(hb:0<=b)(h:a*a<=b*b):a<=b:=by
 apply Rat.not_lt.1;intro hlt;have m1:=Rat.mul_le_mul_of_nonneg_left (Rat.le_of_lt hlt) hb;have m2:=Rat.mul_lt_mul_of_pos_right hlt (show 0<a by grind)
 grind
theorem Sg{m s n t:Nat}{e f:Int}{p:Nat}(h:isRoot m s)(k:isRoot n t)(hb:p<ak s)(kb:p<ak t)(hp:1<=p)(hp2:p<=4096)(hle:(m:Rat)*(P2 e*P2 e)<=(n:Rat)*(P2 f*P2 f)) :
  (ck (jc m s e p false) (lL m s e p false) (jc n t f p true) (lL n t f p true)).Valid:=by
 unfold ck;split
 .exact cC
 .rename_i he
  obtain⟨a0,a1⟩:=Se (e:=e) h hb hp hp2 (by omega);obtain⟨b0,b1⟩:=Sd (e:=f) k kb hp hp2 (by omega);refine .inr ⟨rfl,ia _ _ _ _ _ _ hp hp2,ia _ _ _ _ _ _ hp hp2,?_⟩;rw[eI];refine Sf a0 b0 ?_;have s0:(0:Rat)<=(s:Rat):=Rat.natCast_nonneg;have hpp:=dt e;have m1:=Rat.mul_le_mul_of_nonneg_left a1 a0
  have m2:=Rat.mul_le_mul_of_nonneg_right a1 (Rat.mul_nonneg s0 (Rat.le_of_lt hpp));have c:(s:Rat)*(s:Rat)<=(m:Rat):=by
   have:=Rat.natCast_le_natCast.2 h.1;rwa[Rat.natCast_mul]at this
  have m3:=Rat.mul_le_mul_of_nonneg_right c (Rat.mul_nonneg (Rat.le_of_lt hpp) (Rat.le_of_lt hpp));generalize (jc m s e p false).q=A at *
  generalize (s:Rat)=S at *
  generalize P2 e=P at *
  have e1:S*S*(P*P)=S*P*(S*P):=by grind
  grind
open Go.RowKit Fp Pu
def D0(m N:Nat)(x:Nat):PS:=⟨43,true,[(5,.e (ah (af (bJ m (2^((ak m+1)/2)) x)))),(0,.e (ah (af m)))],[]⟩
theorem DN(L M:List Nat)(hL:ay L)(hM:ay M)(h1:L.length<=3000)(h2:M.length<=3000):∃ S:List Nat,ae 260 [ah L,ah M] (ah S)/\val S=val L+val M/\ay S/\S.length=max L.length M.length+1:=by
 obtain⟨n,hn⟩:∃ n,n=max L.length M.length+1:=⟨_,rfl⟩
 have hlt:val L+val M<4294967296^n:=by
  have a:=dR hL;have b:=dR hM;have e:4294967296^n=4294967296^max L.length M.length*4294967296:=by rw[hn,Nat.pow_succ]
  have c:=Nat.pow_le_pow_right (show 0<4294967296 by decide) (Nat.le_max_left L.length M.length);have d:=Nat.pow_le_pow_right (show 0<4294967296 by decide) (Nat.le_max_right L.length M.length);omega
 refine⟨ek (val L+val M) n,?_,by rw[rJ,Nat.mod_eq_of_lt hlt],qi _ _,by rw[ml,hn]⟩;refine mH hL hM Tryz.call260 (fun A c B d w h k _=>D2 A B c d L M w h k h1 h2) fun B w e w' hB r=>?_
 obtain⟨S,v1,v2,v3,r⟩:=r;rw[vU v2 (by rw[v3,hn]) v1];exact rl B w e w' hB r
theorem O8(L:List Nat)(n:Nat)(hL:ay L)(h1:L.length<=3000)(hn:n<=65536):∃ S:List Nat,ae 204 [ah L,iP (n:Int)] (ah S)/\val S=val L*2^n/\ay S:=by
 obtain⟨m,hm⟩:∃ m,m=n/32+(aw L).length+1:=⟨_,rfl⟩
 have hlt:val L*2^n<4294967296^m:=by
  have a:=dR hL.aw;rw[eP]at a;have e:4294967296^m=4294967296^(aw L).length*2^(32*(n/32+1)):=by
   rw[hm,show n/32+(aw L).length+1=(aw L).length+(n/32+1)by omega,Nat.pow_add,Nat.pow_mul]
  rw[e];exact Nat.mul_lt_mul_of_lt_of_le a (Nat.pow_le_pow_right (by decide) (by omega)) (Nat.pow_pos (by decide))
 refine⟨ek (val L*2^n) m,?_,by rw[rJ,Nat.mod_eq_of_lt hlt],qi _ _⟩;refine qY hL Tryz.call204 (fun A c w h _=>D3 A c L n w h (by omega) hn) fun A c B w e w' h hB r=>?_
 obtain⟨S,v1,v2,v3,r⟩:=r;rw[vU v2 (by rw[v3,hm]) v1];exact rl B w e w' hB r
def lK(L:List Nat):List Nat:=fj (1%32) ((aw L).drop (1/32))
theorem DY(L:List Nat)(hL:ay L)(h1:L.length<=3000):ae 166 [ah L,iP 1] (ah (lK L)) :=
 qY (n:=((1:Nat):Int)) hL Tryz.call166 (fun A c w h _=>xC A c L 1 w h (by omega) (by decide)) fun A c B w e w' h hB r=>rl B w e w' hB r
theorem FO{L:List Nat}(hL:ay L):aw (lK L)=af (val L/2):=by
 unfold lK;rw[fN (mF _ _),uQ hL.aw,eP]
theorem D7(m x:Nat):eA m x<=max x (m/x):=by
 unfold eA;generalize m/x=q;omega
theorem Dk(a b:Nat):(af (max a b)).length<=max (af a).length (af b).length:=by
 rcases Nat.le_total a b with h|h
 .rw [Nat.max_eq_right h];omega
 .rw [Nat.max_eq_left h];omega
theorem O4(m:Nat)(h:(af m).length<=256):ae 165 [ah (af m)] (.aq [ah (af m),iP 0]):=by
 have:=DQ (af m) (cA m) (by rw[jf];exact h);rwa[jf]at this
theorem Pa(m N:Nat)(h1:(af m).length<=256)(h0:m≠0)(hgo:∀ k,k<N->eA m (bJ m (2^((ak m+1)/2)) k)<(bJ m (2^((ak m+1)/2)) k))(hout:(bJ m (2^((ak m+1)/2)) N)<=eA m (bJ m (2^((ak m+1)/2)) N))(hin:∀ k,k<=N->0<(bJ m (2^((ak m+1)/2)) k)/\(bJ m (2^((ak m+1)/2)) k)<=(2^((ak m+1)/2))):ae 337 [(ah (af m))] (.aq [ah (af (bJ m (2^((ak m+1)/2)) N)),iP 0]):=by
 have bm:=dX h0;have bl:=nc h1;have z0:(af (2^((ak m+1)/2))).length<=256:=en (by rw[show(2^((ak m+1)/2))=1*2^((ak m+1)/2)by omega,fu (by decide)];show 1+_<=_;omega);have hlen:∀ k,k<=N->(af (bJ m (2^((ak m+1)/2)) k)).length<=256:=fun k hk=>Nat.le_trans (cJ (hin k hk).2) z0
 obtain⟨S0,hSl,sv,oS0⟩:=O8 (af 1) ((ak m+1)/2) (cA 1) (by decide +kernel) (by omega);rw[bc,Nat.one_mul]at sv;have hS0:ae 167 [ah S0] (ah (af (2^((ak m+1)/2)))):=by
  have:=iH S0 oS0;rwa[fN oS0,sv]at this
 have zN:=hlen N (by omega);exact tr true Tryz.call337 Tryz.func337 (chain [.c (O5 (af m) ‹_›),.c (gT _ (by omega):ae 194 [(ah (af m))] _),tB 15 (dZ (by omega):((((ak m):Nat):Int)==0)=false),
  .o 16 (.e one_le:PV.le (.e (.sl false 1 1 fun i_ j_=>[(.v (.int .u32 1))].getD (i_*1+j_) (.v (.bool false)))) (.e (ah (af 1)))),ar ((((ak m):Nat):Int)+1) (by omega),.a (by omega:0<(2:Int)),
  ar (((((ak m)+1):Nat):Int)) (by omega),.c (hSl:ae 204 [(ah (af 1)),(iP (((((ak m)+1)/2):Nat):Int))] _),.c (hS0:ae 167 [(ah S0)] _),
  .s (Sp.upto (D0 m N) 0 N (by omega) (fun x hx hltx=>by
    obtain⟨xl,xu⟩:=hin x (by omega);obtain⟨Tq,Sq,hdv,dT,dS,oT,oS,lT,lS⟩:=xx (af m) (af (bJ m (2^((ak m+1)/2)) x)) (cA m) (cA _) (by omega) (by have:=hlen x (by omega);omega) (by rw[bc];omega);rw[bc,bc]at dT;have zx:=hlen x (by omega);have hTq:ae 167 [ah Tq] (ah (af (m/(bJ m (2^((ak m+1)/2)) x)))):=by
     have:=iH Tq oT;rwa[fN oT,dT]at this
    have zt:(af (m/(bJ m (2^((ak m+1)/2)) x))).length<=257:=Nat.le_trans (cJ (Nat.div_le_self _ _)) (by omega);obtain⟨Uq,hU,uv,oU,lU⟩:=DN (af (bJ m (2^((ak m+1)/2)) x)) (af (m/(bJ m (2^((ak m+1)/2)) x))) (cA _) (cA _) (by omega) (by omega);rw[bc,bc]at uv;have hV:=DY Uq oU (by omega)
    have hTv:ae 167 [ah (lK Uq)] (ah (af (eA m (bJ m (2^((ak m+1)/2)) x)))):=by
     have:=iH (lK Uq) (mF _ _);rwa[FO oU,uv]at this
    have zn:(af (eA m (bJ m (2^((ak m+1)/2)) x))).length<=257:=Nat.le_trans (cJ (D7 m (bJ m (2^((ak m+1)/2)) x))) (by have:=Dk (bJ m (2^((ak m+1)/2)) x) (m/(bJ m (2^((ak m+1)/2)) x));omega);exact aB (chain [.c (hdv:ae 319 [(ah (af m)),(ah (af (bJ m (2^((ak m+1)/2)) x)))] _),.c (hTq:ae 167 [(ah Tq)] _),
     .c (hU:ae 260 [(ah (af (bJ m (2^((ak m+1)/2)) x))),(ah (af (m/(bJ m (2^((ak m+1)/2)) x))))] _),.c (hV:ae 166 [(ah Uq),(iP 1)] _),.c (hTv:ae 167 [(ah (lK Uq))] _),
     .c (ln _ _ (by omega) (by omega):ae 131 [(ah (af (eA m (bJ m (2^((ak m+1)/2)) x)))),(ah (af (bJ m (2^((ak m+1)/2)) x)))] _),
     tF 37 (0<=(bH (eA m (bJ m (2^((ak m+1)/2)) x)) (bJ m (2^((ak m+1)/2)) x))) (by have:=hgo x (by omega);have:=oI.2 this;omega)] <| .e (chain [.o 5 (.e (.of_eq rfl):PV.le (.e (ah (af (eA m (bJ m (2^((ak m+1)/2)) x))))) (.e (ah (af (bJ m (2^((ak m+1)/2)) (x+1))))))] <| .nil)) (by kernel_rfl))
  (fun hx=>by
    obtain⟨xl,xu⟩:=hin N (by omega);obtain⟨Tq,Sq,hdv,dT,dS,oT,oS,lT,lS⟩:=xx (af m) (af (bJ m (2^((ak m+1)/2)) N)) (cA m) (cA _) (by omega) (by have:=hlen N (by omega);omega) (by rw[bc];omega);rw[bc,bc]at dT;have zx:=hlen N (by omega);have hTq:ae 167 [ah Tq] (ah (af (m/(bJ m (2^((ak m+1)/2)) N)))):=by
     have:=iH Tq oT;rwa[fN oT,dT]at this
    have zt:(af (m/(bJ m (2^((ak m+1)/2)) N))).length<=257:=Nat.le_trans (cJ (Nat.div_le_self _ _)) (by omega);obtain⟨Uq,hU,uv,oU,lU⟩:=DN (af (bJ m (2^((ak m+1)/2)) N)) (af (m/(bJ m (2^((ak m+1)/2)) N))) (cA _) (cA _) (by omega) (by omega);rw[bc,bc]at uv;have hV:=DY Uq oU (by omega)
    have hTv:ae 167 [ah (lK Uq)] (ah (af (eA m (bJ m (2^((ak m+1)/2)) N)))):=by
     have:=iH (lK Uq) (mF _ _);rwa[FO oU,uv]at this
    have zn:(af (eA m (bJ m (2^((ak m+1)/2)) N))).length<=257:=Nat.le_trans (cJ (D7 m (bJ m (2^((ak m+1)/2)) N))) (by have:=Dk (bJ m (2^((ak m+1)/2)) N) (m/(bJ m (2^((ak m+1)/2)) N));omega);exact aB (chain [.c (hdv:ae 319 [(ah (af m)),(ah (af (bJ m (2^((ak m+1)/2)) N)))] _),.c (hTq:ae 167 [(ah Tq)] _),
    .c (hU:ae 260 [(ah (af (bJ m (2^((ak m+1)/2)) N))),(ah (af (m/(bJ m (2^((ak m+1)/2)) N))))] _),.c (hV:ae 166 [(ah Uq),(iP 1)] _),.c (hTv:ae 167 [(ah (lK Uq))] _),
    .c (ln _ _ (by omega) (by omega):ae 131 [(ah (af (eA m (bJ m (2^((ak m+1)/2)) N)))),(ah (af (bJ m (2^((ak m+1)/2)) N)))] _),
    tT 37 (0<=(bH (eA m (bJ m (2^((ak m+1)/2)) N)) (bJ m (2^((ak m+1)/2)) N))) (by have:=hout;have:¬bH (eA m (bJ m (2^((ak m+1)/2)) N)) (bJ m (2^((ak m+1)/2)) N)<0:=fun q=>absurd (oI.1 q) (by omega);omega),
    .c (O4 _ (by omega):ae 165 [(ah (af (bJ m (2^((ak m+1)/2)) N)))] _)] <| .nil) (by kernel_rfl)) (by nofun):bD 7 Tryz.f337 (D0 m N 0) .ret ⟨43,true,[(3,.e (iP 0)),(2,.e (ah (af (bJ m (2^((ak m+1)/2)) N))))],[]⟩) (chain [.o 5 (.e (.of_eq rfl):PV.le (.e (ah (af (2^((ak m+1)/2))))) (.e (ah (af (bJ m (2^((ak m+1)/2)) 0)))))] <| .nil)] <| .nil) (by kernel_rfl)
theorem D1(m s:Nat)(h1:(af m).length<=256)(h0:m≠0)(hr:isRoot m s):ae 337 [ah (af m)] (.aq [ah (af s),iP 0]):=by
 obtain⟨N,_,a,b,c,d⟩:=Rl hr (Nat.pos_of_ne_zero h0) (Rn m hr);have hs:0<s:=by
  apply Classical.byContradiction;intro h;obtain rfl:s=0:=by omega
  have:=hr.2;omega
 have:=Pa m N h1 h0 a b fun k hk=>⟨by have:=(d k hk).1;omega,(d k hk).2⟩
 rwa[c]at this
noncomputable def cj(m:Nat):Nat:=Classical.choose (Fo m)
theorem nU(m:Nat):isRoot m (cj m):=Classical.choose_spec (Fo m)
def gX(d:Dy)(p:Nat):Nat:=if Int.tmod (d.e-(((2*p+4-ak d.m:Nat)):Int)) 2=0 then 2*p+4-ak d.m else 2*p+4-ak d.m+1
noncomputable def je(d:Dy)(p:Nat)(up:Bool):Dy:=jc (d.m*2^gX d p) (cj (d.m*2^gX d p)) ((d.e-((gX d p:Nat):Int))/2) p up
noncomputable def jd(d:Dy)(p:Nat)(up:Bool):Int:=lL (d.m*2^gX d p) (cj (d.m*2^gX d p)) ((d.e-((gX d p:Nat):Int))/2) p up
theorem uC(d:Dy)(p:Nat):d.e-((gX d p:Nat):Int)=2*((d.e-((gX d p:Nat):Int))/2):=by
 have key:∀ x:Int,Int.tmod x 2=0↔x%2=0:=fun x=>by rw[<-Int.dvd_iff_tmod_eq_zero,<-Int.dvd_iff_emod_eq_zero]
 have:(d.e-((gX d p:Nat):Int))%2=0:=by
  unfold gX;split
  .rename_i h;exact(key _).1 h
  .rename_i h
   have h2:¬(d.e-(((2*p+4-ak d.m:Nat)):Int))%2=0:=fun q=>h ((key _).2 q)
   clear h;omega
 omega
theorem FY(s:Nat):s<=s*s:=by
 by_cases h:s=0
 .subst h;exact Nat.zero_le _
 .exact Nat.le_mul_of_pos_left s (Nat.pos_of_ne_zero h)
theorem F0{d:Dy}(hn:d.neg=false)(K:Nat){E:Int}(h:d.e-(K:Int)=2*E):((d.m*2^K:Nat):Rat)*(P2 E*P2 E)=d.q:=by
 rw[e9,hn,if_neg (by decide),<-fG,Rat.natCast_mul,<-kN,Rat.mul_assoc,<-fG,show(K:Int)+(E+E)=d.e by omega]
theorem yD{m s p:Nat}(h:isRoot m s)(hm:2*p+4<=ak m):p<ak s:=by
 apply Classical.byContradiction;intro hb;have h1:s<2^ak s:=gi s;have h2:2^ak s<=2^p:=Nat.pow_le_pow_right (by decide) (by omega);have h3:=Nat.mul_le_mul (show s+1<=2^p by omega) (show s+1<=2^p by omega);rw[<-Nat.pow_add]at h3;have h4:=h.2;have h5:ak m<=p+p:=cv.2 (Nat.lt_of_lt_of_le h4 h3);omega
theorem Fq(m s:Nat):((bH (s*s) m) != 0)=decide (s*s≠m):=by
 unfold bH;generalize s*s=q;rcases Nat.lt_trichotomy q m with h|h|h
 .rw [if_pos h,decide_eq_true (by omega)];rfl
 .subst h;simp
 .rw [if_neg (by omega),if_pos h,decide_eq_true (by omega)];rfl
theorem QF(d:Dy)(p:Nat)(up:Bool)(hd:d.Valid)(hn:d.neg=false)(h0:d.m≠0)(hp1:8<=p)(hp2:p<=512)(hev:Int.tmod (d.e-(((2*p+4-(ak d.m)):Nat):Int)) 2=0):ae 317 [(ag d),(iP p),(bP up)] (.aq [ag (je d p up),iP (jd d p up)]):=by
 have hl:=hd.af;have hx:=hd.exp;have hr:=hd.range.resolve_left h0;have bp:=dX h0;have hK:gX d p=(2*p+4-(ak d.m)):=by unfold gX;rw[if_pos hev]
 have he:=uC d p;rw[hK]at he;have hb:=fu h0 (2*p+4-(ak d.m));have z1:(af (d.m*2^(2*p+4-(ak d.m)))).length<=256:=en (by omega);have hM0:(d.m*2^(2*p+4-(ak d.m)))≠0:=Nat.mul_ne_zero h0 (Nat.ne_of_gt (Nat.pow_pos (by decide)));have hrt:=nU (d.m*2^(2*p+4-(ak d.m)));have hrb:=yD hrt (p:=p) (by omega)
 have z2:(af (cj (d.m*2^(2*p+4-(ak d.m)))*cj (d.m*2^(2*p+4-(ak d.m))))).length<=256:=Nat.le_trans (cJ hrt.1) z1;have z3:(af (cj (d.m*2^(2*p+4-(ak d.m))))).length<=256:=Nat.le_trans (cJ (Nat.le_trans (FY _) hrt.1)) z1
 have h00:cj (d.m*2^(2*p+4-(ak d.m)))≠0\/cj (d.m*2^(2*p+4-(ak d.m)))=0/\(d.e-(((2*p+4-(ak d.m)):Nat):Int))/2=0/\((bH (cj (d.m*2^(2*p+4-(ak d.m)))*cj (d.m*2^(2*p+4-(ak d.m)))) (d.m*2^(2*p+4-(ak d.m)))) != 0)=false:=.inl (fun q=>by rw[q,gQ]at hrb;omega)
 have hmm:((bH (cj (d.m*2^(2*p+4-(ak d.m)))*cj (d.m*2^(2*p+4-(ak d.m)))) (d.m*2^(2*p+4-(ak d.m)))) != 0)=true->p<ak (cj (d.m*2^(2*p+4-(ak d.m)))):=fun _=>hrb
 exact tr true Tryz.call317 Tryz.func317 (chain [.o 17 (.e (wa _):PV.le (.e (.sl true 1 3 fun i_ j_=>(aQ d).getD (i_*3+j_) (.v (.bool false)))) (.e (dx [d]))),.c (yi _ _ ‹_› (by omega) (by omega):ae 177 [(iP p),(dx [d])] _),
  tB 20 (by decide:((0:Int)==0)=true),tB 23 (hn:d.neg=false),tB 26 (by decide:((0:Int) != 0)=false),tB 31 (dZ (fA h0):((((af d.m).length:Nat):Int)==0)=false),
  ar (2*(p:Int)) (by omega),ar ((((2*p):Nat):Int)+4) (by omega),.c (sM _ ‹_›:ae 295 [(ag d)] _),ar (((((2*p)+4):Nat):Int)-(((ak (Dy.m d)):Nat):Int)) (by omega),
  .o 41 (.int (by split<;>omega):PV.le (.e (iP (if(((((2*p)+4):Nat):Int)-(((ak (Dy.m d)):Nat):Int))>0 then(((((2*p)+4):Nat):Int)-(((ak (Dy.m d)):Nat):Int))else 0))) (.e (iP (((2*p+4-(ak d.m)):Nat):Int)))),
  ar (d.e-(((2*p+4-(ak d.m)):Nat):Int)) (by omega),.a (by omega:0<(2:Int)),tB 47 ((by simpa using hev):((Int.tmod (d.e-(((2*p+4-(ak d.m)):Nat):Int)) 2) != 0)=false),
  .c (jG d.m (2*p+4-(ak d.m)) (by omega) (by omega) (by omega)),.c (D1 _ _ (by omega) ‹_› (nU _):ae 337 [(ah (af (d.m*2^(2*p+4-(ak d.m)))))] _),
  .c (lq _ _ (by omega) (by omega) (by omega):ae 181 [(ah (af (cj (d.m*2^(2*p+4-(ak d.m)))))),(ah (af (cj (d.m*2^(2*p+4-(ak d.m))))))] _),
  ar (d.e-(((2*p+4-(ak d.m)):Nat):Int)) (by omega),.a (by omega:0<(2:Int)),ar ((d.e-(((2*p+4-(ak d.m)):Nat):Int))) (by omega),
  .o 70 (.int (by generalize hy:(d.e-(((2*p+4-(ak d.m)):Nat):Int))/2=y at *;rw[he];exact Int.mul_tdiv_cancel_left _ (by decide)):PV.le (.e (iP (Int.tdiv (d.e-(((2*p+4-(ak d.m)):Nat):Int)) 2))) (.e (iP ((d.e-(((2*p+4-(ak d.m)):Nat):Int))/2)))),
  .c (ln _ _ (by omega) (by omega):ae 131 [(ah (af ((cj (d.m*2^(2*p+4-(ak d.m))))*(cj (d.m*2^(2*p+4-(ak d.m))))))),(ah (af (d.m*2^(2*p+4-(ak d.m)))))] _),
  .c (pt _ _ _ _ _ (by omega) ‹_› (by omega) (by omega) (by omega) (by omega) ‹_›:ae 220 [(.agg [(ah (af (cj (d.m*2^(2*p+4-(ak d.m)))))),(iP ((d.e-(((2*p+4-(ak d.m)):Nat):Int))/2)),(bP ((bH ((cj (d.m*2^(2*p+4-(ak d.m))))*(cj (d.m*2^(2*p+4-(ak d.m))))) (d.m*2^(2*p+4-(ak d.m)))) != 0))]),(iP p),(bP up)] _)]<|rQ (.aq [(ag (bn false (cj (d.m*2^(2*p+4-(ak d.m)))) ((d.e-(((2*p+4-(ak d.m)):Nat):Int))/2) ((bH ((cj (d.m*2^(2*p+4-(ak d.m))))*(cj (d.m*2^(2*p+4-(ak d.m))))) (d.m*2^(2*p+4-(ak d.m)))) != 0) p up)),(iP (bd false (cj (d.m*2^(2*p+4-(ak d.m)))) ((d.e-(((2*p+4-(ak d.m)):Nat):Int))/2) ((bH ((cj (d.m*2^(2*p+4-(ak d.m))))*(cj (d.m*2^(2*p+4-(ak d.m))))) (d.m*2^(2*p+4-(ak d.m)))) != 0) p up))]) (.aq [ag (je d p up),iP (jd d p up)]) (by unfold je jd jc lL;rw[hK,Fq])) (by kernel_rfl)
theorem QG(d:Dy)(p:Nat)(up:Bool)(hd:d.Valid)(hn:d.neg=false)(h0:d.m≠0)(hp1:8<=p)(hp2:p<=512)(hev:¬Int.tmod (d.e-(((2*p+4-(ak d.m)):Nat):Int)) 2=0):ae 317 [(ag d),(iP p),(bP up)] (.aq [ag (je d p up),iP (jd d p up)]):=by
 have hl:=hd.af;have hx:=hd.exp;have hr:=hd.range.resolve_left h0;have bp:=dX h0;have hK:gX d p=((2*p+4-(ak d.m))+1):=by unfold gX;rw[if_neg hev]
 have he:=uC d p;rw[hK]at he;have hb:=fu h0 ((2*p+4-(ak d.m))+1);have z1:(af (d.m*2^((2*p+4-(ak d.m))+1))).length<=256:=en (by omega);have hM0:(d.m*2^((2*p+4-(ak d.m))+1))≠0:=Nat.mul_ne_zero h0 (Nat.ne_of_gt (Nat.pow_pos (by decide)));have hrt:=nU (d.m*2^((2*p+4-(ak d.m))+1));have hrb:=yD hrt (p:=p) (by omega)
 have z2:(af (cj (d.m*2^((2*p+4-(ak d.m))+1))*cj (d.m*2^((2*p+4-(ak d.m))+1)))).length<=256:=Nat.le_trans (cJ hrt.1) z1;have z3:(af (cj (d.m*2^((2*p+4-(ak d.m))+1)))).length<=256:=Nat.le_trans (cJ (Nat.le_trans (FY _) hrt.1)) z1
 have h00:cj (d.m*2^((2*p+4-(ak d.m))+1))≠0\/cj (d.m*2^((2*p+4-(ak d.m))+1))=0/\(d.e-((((2*p+4-(ak d.m))+1):Nat):Int))/2=0/\((bH (cj (d.m*2^((2*p+4-(ak d.m))+1))*cj (d.m*2^((2*p+4-(ak d.m))+1))) (d.m*2^((2*p+4-(ak d.m))+1))) != 0)=false:=.inl (fun q=>by rw[q,gQ]at hrb;omega)
 have hmm:((bH (cj (d.m*2^((2*p+4-(ak d.m))+1))*cj (d.m*2^((2*p+4-(ak d.m))+1))) (d.m*2^((2*p+4-(ak d.m))+1))) != 0)=true->p<ak (cj (d.m*2^((2*p+4-(ak d.m))+1))):=fun _=>hrb
 exact tr true Tryz.call317 Tryz.func317 (chain [.o 17 (.e (wa _):PV.le (.e (.sl true 1 3 fun i_ j_=>(aQ d).getD (i_*3+j_) (.v (.bool false)))) (.e (dx [d]))),.c (yi _ _ ‹_› (by omega) (by omega):ae 177 [(iP p),(dx [d])] _),
  tB 20 (by decide:((0:Int)==0)=true),tB 23 (hn:d.neg=false),tB 26 (by decide:((0:Int) != 0)=false),tB 31 (dZ (fA h0):((((af d.m).length:Nat):Int)==0)=false),
  ar (2*(p:Int)) (by omega),ar ((((2*p):Nat):Int)+4) (by omega),.c (sM _ ‹_›:ae 295 [(ag d)] _),ar (((((2*p)+4):Nat):Int)-(((ak (Dy.m d)):Nat):Int)) (by omega),
  .o 41 (.int (by split<;>omega):PV.le (.e (iP (if(((((2*p)+4):Nat):Int)-(((ak (Dy.m d)):Nat):Int))>0 then(((((2*p)+4):Nat):Int)-(((ak (Dy.m d)):Nat):Int))else 0))) (.e (iP (((2*p+4-(ak d.m)):Nat):Int)))),
  ar (d.e-(((2*p+4-(ak d.m)):Nat):Int)) (by omega),.a (by omega:0<(2:Int)),tB 47 ((by simpa using hev):((Int.tmod (d.e-(((2*p+4-(ak d.m)):Nat):Int)) 2) != 0)=true),
  ar ((((2*p+4-(ak d.m)):Nat):Int)+1) (by omega),.c (jG d.m ((2*p+4-(ak d.m))+1) (by omega) (by omega) (by omega)),
  .c (D1 _ _ (by omega) ‹_› (nU _):ae 337 [(ah (af (d.m*2^((2*p+4-(ak d.m))+1))))] _),
  .c (lq _ _ (by omega) (by omega) (by omega):ae 181 [(ah (af (cj (d.m*2^((2*p+4-(ak d.m))+1))))),(ah (af (cj (d.m*2^((2*p+4-(ak d.m))+1)))))] _),
  ar (d.e-((((2*p+4-(ak d.m))+1):Nat):Int)) (by omega),.a (by omega:0<(2:Int)),ar ((d.e-((((2*p+4-(ak d.m))+1):Nat):Int))) (by omega),
  .o 70 (.int (by generalize hy:(d.e-((((2*p+4-(ak d.m))+1):Nat):Int))/2=y at *;rw[he];exact Int.mul_tdiv_cancel_left _ (by decide)):PV.le (.e (iP (Int.tdiv (d.e-((((2*p+4-(ak d.m))+1):Nat):Int)) 2))) (.e (iP ((d.e-((((2*p+4-(ak d.m))+1):Nat):Int))/2)))),
  .c (ln _ _ (by omega) (by omega):ae 131 [(ah (af ((cj (d.m*2^((2*p+4-(ak d.m))+1)))*(cj (d.m*2^((2*p+4-(ak d.m))+1)))))),(ah (af (d.m*2^((2*p+4-(ak d.m))+1))))] _),
  .c (pt _ _ _ _ _ (by omega) ‹_› (by omega) (by omega) (by omega) (by omega) ‹_›:ae 220 [(.agg [(ah (af (cj (d.m*2^((2*p+4-(ak d.m))+1))))),(iP ((d.e-((((2*p+4-(ak d.m))+1):Nat):Int))/2)),(bP ((bH ((cj (d.m*2^((2*p+4-(ak d.m))+1)))*(cj (d.m*2^((2*p+4-(ak d.m))+1)))) (d.m*2^((2*p+4-(ak d.m))+1))) != 0))]),(iP p),(bP up)] _)]<|rQ (.aq [(ag (bn false (cj (d.m*2^((2*p+4-(ak d.m))+1))) ((d.e-((((2*p+4-(ak d.m))+1):Nat):Int))/2) ((bH ((cj (d.m*2^((2*p+4-(ak d.m))+1)))*(cj (d.m*2^((2*p+4-(ak d.m))+1)))) (d.m*2^((2*p+4-(ak d.m))+1))) != 0) p up)),(iP (bd false (cj (d.m*2^((2*p+4-(ak d.m))+1))) ((d.e-((((2*p+4-(ak d.m))+1):Nat):Int))/2) ((bH ((cj (d.m*2^((2*p+4-(ak d.m))+1)))*(cj (d.m*2^((2*p+4-(ak d.m))+1)))) (d.m*2^((2*p+4-(ak d.m))+1))) != 0) p up))]) (.aq [ag (je d p up),iP (jd d p up)]) (by unfold je jd jc lL;rw[hK,Fq])) (by kernel_rfl)
theorem EU(d:Dy)(p:Nat)(up:Bool)(hd:d.Valid)(hn:d.neg=false)(h0:d.m≠0)(hp1:8<=p)(hp2:p<=512):ae 317 [(ag d),(iP p),(bP up)] (.aq [ag (je d p up),iP (jd d p up)]):=by
 by_cases h:Int.tmod (d.e-(((2*p+4-(ak d.m)):Nat):Int)) 2=0
 .exact QF d p up hd hn h0 hp1 hp2 h
 .exact QG d p up hd hn h0 hp1 hp2 h
theorem QD(d:Dy)(p:Nat)(hd:d.Valid)(hn:d.neg=false)(h0:d.m≠0)(hp1:8<=p)(hp2:p<=512):ae 285 [(ag d),(iP p)] (.aq [ag (je d p false),iP (jd d p false)]):=by
 exact tr true Tryz.call285 Tryz.func285 (chain [.c (EU _ _ _ ‹_› ‹_› ‹_› (by omega) (by omega):ae 317 [(ag d),(iP p),(bP false)] _)] <| .nil) (by kernel_rfl)
theorem QE(d:Dy)(p:Nat)(hd:d.Valid)(hn:d.neg=false)(h0:d.m≠0)(hp1:8<=p)(hp2:p<=512):ae 286 [(ag d),(iP p)] (.aq [ag (je d p true),iP (jd d p true)]):=by
 exact tr true Tryz.call286 Tryz.func286 (chain [.c (EU _ _ _ ‹_› ‹_› ‹_› (by omega) (by omega):ae 317 [(ag d),(iP p),(bP true)] _)] <| .nil) (by kernel_rfl)
theorem NQ(x:Iv)(p:Nat)(hx:x.Valid)(hp1:8<=p)(hp2:p<=512)(xa:x.all=true):ae 246 [(ai x),(iP p)] (ai aj):=by
 exact tr true Tryz.call246 Tryz.func246 (chain [.o 10 (.e (cR _):PV.le (.e (.sl true 1 7 fun i_ j_=>(aF x).getD (i_*7+j_) (.v (.bool false)))) (.e (an [x]))),.c (eK _ ‹_›:ae 86 [(an [x])] _),tB 11 (by rw[xa];rfl:(!x.all)=false),
  .c du] <| .nil) (by kernel_rfl)
theorem NR(x:Iv)(p:Nat)(hx:x.Valid)(hp1:8<=p)(hp2:p<=512)(xa:x.all=false)(h1:x.lo.sign<=0):ae 246 [(ai x),(iP p)] (ai aj):=by
 obtain⟨w1,w2⟩:=hx.ends;exact tr true Tryz.call246 Tryz.func246 (chain [.o 10 (.e (cR _):PV.le (.e (.sl true 1 7 fun i_ j_=>(aF x).getD (i_*7+j_) (.v (.bool false)))) (.e (an [x]))),.c (eK _ ‹_›:ae 86 [(an [x])] _),tB 11 (by rw[xa];rfl:(!x.all)=true),
  .c (jx _:ae 87 [(iP p)] _),tB 15 (fS.2 ⟨by omega,by omega⟩:(cB (p:Int))=true),.c (dJ _ ‹_›:ae 35 [(ag x.lo)] _),tB 22 (decide_eq_true h1),.c du] <| .nil) (by kernel_rfl)
theorem NS(x:Iv)(p:Nat)(hx:x.Valid)(hp1:8<=p)(hp2:p<=512)(xa:x.all=false)(h1:¬x.lo.sign<=0)(n1:x.lo.neg=false)(n2:x.hi.neg=false)(m1:x.lo.m≠0)(m2:x.hi.m≠0):ae 246 [(ai x),(iP p)] (ai (ck (je x.lo p false) (jd x.lo p false) (je x.hi p true) (jd x.hi p true))):=by
 obtain⟨w1,w2⟩:=hx.ends;exact tr true Tryz.call246 Tryz.func246 (chain [.o 10 (.e (cR _):PV.le (.e (.sl true 1 7 fun i_ j_=>(aF x).getD (i_*7+j_) (.v (.bool false)))) (.e (an [x]))),.c (eK _ ‹_›:ae 86 [(an [x])] _),tB 11 (by rw[xa];rfl:(!x.all)=true),
  .c (jx _:ae 87 [(iP p)] _),tB 15 (fS.2 ⟨by omega,by omega⟩:(cB (p:Int))=true),.c (dJ _ ‹_›:ae 35 [(ag x.lo)] _),tB 22 (decide_eq_false h1),
  .c (QD _ _ ‹_› ‹_› ‹_› (by omega) (by omega):ae 285 [(ag x.lo),(iP p)] _),
  .c (QE _ _ ‹_› ‹_› ‹_› (by omega) (by omega):ae 286 [(ag x.hi),(iP p)] _),.c (nB (je x.lo p false) (je x.hi p true) (jd x.lo p false) (jd x.hi p true))] <| .nil) (by kernel_rfl)
theorem Es{d:Dy}(h:0<d.q):d.neg=false/\d.m≠0:=by
 have hm:d.m≠0:=fun q=>by rw[e9,q]at h;simp at h
 refine⟨?_,hm⟩;cases hn:d.neg
 .rfl
 .rw [e9,hn,if_pos rfl]at h
  have:=Rat.mul_nonneg (show(0:Rat)<=(d.m:Rat)from Rat.natCast_nonneg) (Rat.le_of_lt (dt d.e))
  grind
theorem FX{d:Dy}{p:Nat}(hp1:8<=p)(h0:d.m≠0):p<ak (cj (d.m*2^gX d p)):=by
 refine yD (nU _) ?_;rw[fu h0];unfold gX;split<;>omega
theorem w8{x:Iv}(hx:x.Valid){p:Nat}(hp1:8<=p)(hp2:p<=512):∃ Z,Z.Valid/\ae 246 [ai x,iP (p:Int)] (ai Z):=by
 cases xa:x.all with
 | true=>exact⟨aj,cC,NQ x p hx hp1 hp2 xa⟩
 | false =>
  by_cases h1:x.lo.sign<=0
  .exact ⟨aj,cC,NR x p hx hp1 hp2 xa h1⟩
  .have q1:0<x.lo.q:=(gl _).1.1 (by omega)
   have q2:0<x.hi.q:=by have:=hx.q;grind
   obtain⟨n1,m1⟩:=Es q1;obtain⟨n2,m2⟩:=Es q2;refine⟨_,?_,NS x p hx hp1 hp2 xa h1 n1 n2 m1 m2⟩;refine Sg (nU _) (nU _) (FX hp1 m1) (FX hp1 m2) (by omega) (by omega) ?_;rw[F0 n1 _ (uC _ _),F0 n2 _ (uC _ _)];exact hx.q
open Go.RowKit Fp Pu
def aP(X b:Nat):Nat->Nat
 | 0=>2^b
 | k+1=>aP X b k*X/2^b/(k+1)
theorem Cy{X b:Nat}(h:X<=2^(b+1))(t:Nat):t*X/2^b<=2*t:=by
 have hp:0<2^b:=Nat.pow_pos (by decide);have h1:t*X<=t*(2^b*2):=Nat.mul_le_mul_left t (by rw[<-Nat.pow_succ];exact h);have h2:t*X/2^b<=t*(2^b*2)/2^b:=Nat.div_le_div_right h1;have h3:t*(2^b*2)/2^b=2*t:=by
  rw[show t*(2^b*2)=2^b*(2*t)by rw[Nat.mul_left_comm,Nat.mul_comm t 2]];exact Nat.mul_div_cancel_left _ hp
 omega
theorem qq{X b:Nat}(h:X<=2^(b+1)):∀ k,aP X b k<=2^(b+1)
 | 0=>by show 2^b<=2^(b+1);rw[Nat.pow_succ];omega
 | 1=>by
  show 2^b*X/2^b/1<=_;rw[Nat.div_one,Nat.mul_div_cancel_left _ (Nat.pow_pos (by decide))];exact h
 | k+2=>by
  have ih:=qq h (k+1);have h1:=Cy h (aP X b (k+1));show aP X b (k+1)*X/2^b/(k+2)<=_;have h2:aP X b (k+1)*X/2^b/(k+2)<=aP X b (k+1)*X/2^b/2:=Nat.div_le_div_left (by omega) (by decide);omega
theorem Mn{X b:Nat}(h:X<=2^(b+1))(k:Nat)(hk:3<=k):aP X b (k+1)*2<=aP X b k:=by
 have h1:=Cy h (aP X b k);have h2:aP X b (k+1)<=aP X b k*X/2^b/4:=Nat.div_le_div_left (by omega) (by decide);omega
theorem Cx{X b:Nat}(h:X<=2^(b+1)):∀ j,aP X b (3+j)*2^j<=2^(b+1)
 | 0=>by rw[Nat.pow_zero,Nat.mul_one];exact qq h 3
 | j+1=>by
  have ih:=Cx h j;have h1:=Mn h (3+j) (by omega);have h2:=Nat.mul_le_mul_right (2^j) h1;rw[Nat.pow_succ,show aP X b (3+(j+1))*(2^j*2)=aP X b (3+j+1)*2*2^j by rw[Nat.mul_assoc,Nat.mul_comm 2 (2^j)];rfl];omega
theorem Mo{X b:Nat}(h:X<=2^(b+1)):∃ N,1<=N/\N<=b+5/\(∀ k,k<N->aP X b k≠0)/\aP X b N=0:=by
 have hz:aP X b (3+(b+2))=0:=by
  have h1:=Cx h (b+2);apply Classical.byContradiction;intro hne;have h2:2^(b+2)<=aP X b (3+(b+2))*2^(b+2):=Nat.le_mul_of_pos_left _ (Nat.pos_of_ne_zero hne);have h3:2^(b+2)=2^(b+1)*2:=Nat.pow_succ (n:=2) (m:=b+1);have h4:0<2^(b+1):=Nat.pow_pos (by decide);omega
 obtain⟨N,n1,n2,n3⟩:=gF (p:=fun k=>decide (aP X b k=0)) (n:=b+6) ⟨3+(b+2),by omega,decide_eq_true hz⟩;have n2':=of_decide_eq_true n2;refine⟨N,?_,by omega,fun k hk=>of_decide_eq_false (n3 k hk),n2'⟩;rcases N with _|N
 .have:0<2^b:=Nat.pow_pos (by decide)
  have e:2^b=0:=n2';omega
 .omega
theorem Ni{f:Nat->Nat}{B:Nat}(h0:f 0<2^B)(h:∀ k,f (k+1)*2<=f k):∃ N,N<=B/\(∀ k,k<N->f k≠0)/\f N=0:=by
 have hp:∀ k,f k*2^k<=f 0:=by
  intro k
  induction k with
  | zero=>rw[Nat.pow_zero,Nat.mul_one];exact Nat.le_refl _
  | succ k ih =>
   have:=Nat.mul_le_mul_right (2^k) (h k);rw[Nat.pow_succ,show f (k+1)*(2^k*2)=f (k+1)*2*2^k by rw[Nat.mul_assoc,Nat.mul_comm 2 (2^k)]];omega
 have hz:f B=0:=by
  apply Classical.byContradiction;intro hne;have h2:2^B<=f B*2^B:=Nat.le_mul_of_pos_left _ (Nat.pos_of_ne_zero hne);have:=hp B;omega
 obtain⟨N,n1,n2,n3⟩:=gF (p:=fun k=>decide (f k=0)) (n:=B+1) ⟨B,by omega,decide_eq_true hz⟩;exact⟨N,by omega,fun k hk=>of_decide_eq_false (n3 k hk),of_decide_eq_true n2⟩
def aU(a b:Bool×Nat):Bool×Nat:=if a.1=b.1 then(a.1,a.2+b.2)else if a.2<b.2 then(b.1,b.2-a.2)else(a.1,a.2-b.2)
def ew(a:Bool×Nat):Int:=if a.1 then -(a.2:Int)else(a.2:Int)
theorem wH(a b:Bool×Nat):ew (aU a b)=ew a+ew b:=by
 obtain⟨s,m⟩:=a;obtain⟨t,n⟩:=b;unfold aU ew;cases s<;>cases t<;>simp<;>(try split)<;>(try simp)<;>omega
theorem kv(a b:Bool×Nat):(aU a b).2<=a.2+b.2:=by
 unfold aU;split
 .exact Nat.le_refl _
 .split
  .show b.2-a.2<=_;omega
  .show a.2-b.2<=_;omega
open Go.RowKit Fp Pu
def mu(a:Bool×Nat)(b:Nat):Dy:=canon a.1 a.2 (-(b:Int))
theorem Cw(a:Bool×Nat)(b:Nat):(mu a b).q=(ew a:Rat)*P2 (-(b:Int)):=by
 unfold mu ew;rw[fU];cases a.1
 .simp only[Bool.false_eq_true,if_false];rw[Rat.intCast_natCast]
 .simp only[if_true];rw[Rat.intCast_neg,Rat.intCast_natCast];grind
def s8(a:Bool×Nat):Bool×Nat:=aU a (true,16777216)
def s7(a:Bool×Nat):Bool×Nat:=aU a (false,16777216)
def gU(a:Bool×Nat)(b p:Nat):Iv:=ck (bq (mu (s8 a) b) p false) (bg (mu (s8 a) b) p false) (bq (mu (s7 a) b) p true) (bg (mu (s7 a) b) p true)
theorem Pf(a:Bool×Nat)(b:Nat){p:Nat}(hp:1<=p)(hp2:p<=4096):(gU a b p).Valid:=by
 unfold gU ck;split
 .exact cC
 .rename_i he
  have c1:(mu (s8 a) b).Canon:=gY _ _ _;have c2:(mu (s7 a) b).Canon:=gY _ _ _;have A:=jW c1 hp hp2;have B:=jX c2 hp hp2;refine .inr ⟨rfl,ef _ hp hp2 _,ef _ hp hp2 _,?_⟩;rw[eI];refine Rat.le_trans (A.1 (by omega)).2 (Rat.le_trans ?_ (B.1 (by omega)).2);rw[Cw,Cw,jB,Rat.intCast_le_intCast];unfold s8 s7;rw[wH,wH];simp[ew]
open Go.RowKit Fp Pu
theorem mg(m n:Nat)(h1:(af m).length<=256)(h2:n<=65536)(h3:(af (m*2^n)).length<=256):ae 329 [(ah (af m)),(iP n)] (ah (af (m*2^n))):=by
 exact tr true Tryz.call329 Tryz.func329 (chain [.c (DX _ _ ‹_› (by omega) ‹_›:ae 168 [(ah (af m)),(iP n)] _)] <| .nil) (by kernel_rfl)
theorem jO(m n:Nat)(h1:(af m).length<=256)(h2:n<=65536):ae 330 [(ah (af m)),(iP n)] (ah (af (m/2^n))):=by
 exact tr true Tryz.call330 Tryz.func330 (chain [.c (xA _ _ ‹_› (by omega):ae 127 [(ah (af m)),(iP n)] _)] <| .nil) (by kernel_rfl)
theorem vz(m:Nat)(z:Int)(h1:(af m).length<=256)(h2:0<=z)(h3:z<=65536)(h4:(af (m*2^z.toNat)).length<=256):ae 329 [ah (af m),iP z] (ah (af (m*2^z.toNat))):=by
 have:=mg m z.toNat h1 (by omega) h4;rwa[show(z.toNat:Int)=z by omega]at this
theorem JX(m:Nat)(z:Int)(h1:(af m).length<=256)(h2:0<=z)(h3:z<=65536):ae 330 [ah (af m),iP z] (ah (af (m/2^z.toNat))):=by
 have:=jO m z.toNat h1 (by omega);rwa[show(z.toNat:Int)=z by omega]at this
theorem ch{m k:Nat}(h:m<2^k)(hk:k<=8192):(af m).length<=256:=en (Nat.le_trans (cv.2 h) hk)
theorem ig{n:Nat}(h:n<4294967296):(af n).length<=256:=ch (k:=32) h (by decide)
theorem NA(n:Nat):(az n).neg=false/\0<=(az n).e/\(az n).m*2^(az n).e.toNat=n/\(az n).m<=n:=by
 by_cases h:n=0
 .subst h;decide
 .have e1:(az (n:Int))=canon false n 0:=mA n
  have e2:canon false n 0=⟨false,n/2^aY n,(aY n:Int)⟩:=by unfold canon;rw[if_neg h];simp
  rw[e1,e2];refine⟨rfl,Int.natCast_nonneg _,?_,Nat.div_le_self _ _⟩;show n/2^aY n*2^(aY n:Int).toNat=n;rw[Int.toNat_natCast];exact qk h
theorem vE(n:Nat)(h:n<4294967296):ae 331 [(iP n)] (.agg [(bP false),(ah (af n))]):=by
 obtain⟨p1,p2,p3,p4⟩:=NA n;have hv:=wU n h;have he:=hv.exp;have z1:=hv.af;have z2:(af ((az n).m*2^(Int.toNat (az n).e))).length<=256:=by rw[p3];exact ig h
 exact tr true Tryz.call331 Tryz.func331 (chain [.c (vq n (by omega)),.c (vz _ _ ‹_› (by omega) (by omega) ‹_›:ae 329 [(ah (af ((az (n:Int)).m))),(iP ((az (n:Int)).e))] _)]<|rQ (.agg [(bP ((az (n:Int)).neg)),(ah (af (((az (n:Int)).m)*2^(Int.toNat ((az (n:Int)).e)))))]) (.agg [(bP false),(ah (af n))]) (by rw[p1,p3])) (by kernel_rfl)
theorem IW(m:Nat):(((ak m:Nat):Int)==0)=decide (m=0):=by
 by_cases h:m=0
 .subst h;rw[gQ];rfl
 .have:=dX h
  rw[decide_eq_false h];exact dZ (by omega)
theorem ku(a:Bool×Nat)(ha:(af a.2).length<=256):ae 336 [(.agg [(bP a.1),(ah (af a.2))])] (bP (decide (a.2=0))):=by
 exact tr true Tryz.call336 Tryz.func336 (chain [.c (gT _ (by omega):ae 194 [(ah (af a.2))] _)]<|rQ (bP (((ak a.2:Nat):Int)==0)) (bP (decide (a.2=0))) (by rw[IW])) (by kernel_rfl)
theorem jt(a:Bool×Nat):ae 326 [(.agg [(bP a.1),(ah (af a.2))])] (.agg [(bP (!a.1)),(ah (af a.2))]):=by
 exact tr true Tryz.call326 Tryz.func326 (.nil) (by kernel_rfl)
theorem LU(a:Bool×Nat)(ha:(af a.2).length<=256)(b:Bool×Nat)(hb:(af b.2).length<=256)(h:a.1=b.1)(hs:(af (a.2+b.2)).length<=256):ae 335 [(.agg [(bP a.1),(ah (af a.2))]),(.agg [(bP b.1),(ah (af b.2))])] (.agg [(bP a.1),(ah (af (a.2+b.2)))]):=by
 exact tr true Tryz.call335 Tryz.func335 (chain [tB 13 (by rw[h];simp:(a.1==b.1)=true),.c (tH _ _ ‹_› ‹_› ‹_›:ae 218 [(ah (af a.2)),(ah (af b.2))] _)] <| .nil) (by kernel_rfl)
theorem LR(a:Bool×Nat)(ha:(af a.2).length<=256)(b:Bool×Nat)(hb:(af b.2).length<=256)(h:¬a.1=b.1)(h2:a.2<b.2):ae 335 [(.agg [(bP a.1),(ah (af a.2))]),(.agg [(bP b.1),(ah (af b.2))])] (.agg [(bP b.1),(ah (af (b.2-a.2)))]):=by
 exact tr true Tryz.call335 Tryz.func335 (chain [tB 13 (by simpa using h:(a.1==b.1)=false),.c (ln _ _ (by omega) (by omega):ae 131 [(ah (af a.2)),(ah (af b.2))] _),tT 31 ((bH a.2 b.2)<0) (oI.2 h2),
  .c (qQ _ _ ‹_› ‹_› (by omega):ae 219 [(ah (af b.2)),(ah (af a.2))] _)] <| .nil) (by kernel_rfl)
theorem LS(a:Bool×Nat)(ha:(af a.2).length<=256)(b:Bool×Nat)(hb:(af b.2).length<=256)(h:¬a.1=b.1)(h2:¬a.2<b.2):ae 335 [(.agg [(bP a.1),(ah (af a.2))]),(.agg [(bP b.1),(ah (af b.2))])] (.agg [(bP a.1),(ah (af (a.2-b.2)))]):=by
 exact tr true Tryz.call335 Tryz.func335 (chain [tB 13 (by simpa using h:(a.1==b.1)=false),.c (ln _ _ (by omega) (by omega):ae 131 [(ah (af a.2)),(ah (af b.2))] _),tF 31 ((bH a.2 b.2)<0) fun q=>h2 (oI.1 q),
  .c (qQ _ _ ‹_› ‹_› (by omega):ae 219 [(ah (af a.2)),(ah (af b.2))] _)] <| .nil) (by kernel_rfl)
theorem ic(a:Bool×Nat)(ha:(af a.2).length<=256)(b:Bool×Nat)(hb:(af b.2).length<=256)(hs:(af (a.2+b.2)).length<=256):ae 335 [(.agg [(bP a.1),(ah (af a.2))]),(.agg [(bP b.1),(ah (af b.2))])] (.agg [(bP ((aU a b).1)),(ah (af ((aU a b).2)))]):=by
 unfold aU;split
 .rename_i h;exact LU a ha b hb h hs
 .rename_i h
  split
  .rename_i h2;exact LR a ha b hb h h2
  .rename_i h2;exact LS a ha b hb h h2
theorem oV(a:Bool×Nat)(ha:(af a.2).length<=256)(c:Bool×Nat)(hc:(af c.2).length<=256)(b:Nat)(hb:b<=65536)(hm:(af (a.2*c.2)).length<=256):ae 332 [(.agg [(bP a.1),(ah (af a.2))]),(.agg [(bP c.1),(ah (af c.2))]),(iP b)] (.agg [(bP (a.1 != c.1)),(ah (af (a.2*c.2/2^b)))]):=by
 exact tr true Tryz.call332 Tryz.func332 (chain [.c (lq _ _ ‹_› ‹_› ‹_›:ae 181 [(ah (af a.2)),(ah (af c.2))] _),.c (jO _ _ ‹_› (by omega):ae 330 [(ah (af (a.2*c.2))),(iP b)] _)] <| .nil) (by kernel_rfl)
theorem kZ(a:Bool×Nat)(ha:(af a.2).length<=256)(n:Nat)(h0:n≠0)(hn:n<4294967296):ae 342 [(.agg [(bP a.1),(ah (af a.2))]),(iP n)] (.agg [(bP a.1),(ah (af (a.2/n)))]):=by
 have zn:(af n).length<=256:=ig hn;exact tr true Tryz.call342 Tryz.func342 (chain [.c (vE _ (by omega):ae 331 [(iP n)] _),.c (lp _ _ (by omega) (by omega) ‹_›:ae 296 [(ah (af a.2)),(ah (af n))] _)] <| .nil) (by kernel_rfl)
def fM(d:Dy)(b:Nat):Bool×Nat:=(d.neg,if d.e+(b:Int)<0 then d.m/2^(0-(d.e+(b:Int))).toNat else d.m*2^(d.e+(b:Int)).toNat)
theorem JG(d:Dy)(hd:d.Valid)(b:Nat)(hb:b<=30000)(h:d.e+(b:Int)<0):ae 334 [(ag d),(iP b)] (.agg [(bP ((fM d b).1)),(ah (af ((fM d b).2)))]):=by
 have hx:=hd.exp;have z1:=hd.af;exact tr true Tryz.call334 Tryz.func334 (chain [ar (d.e+(b:Int)) (by omega),tB 11 (decide_eq_true h),ar (0-(d.e+(b:Int))) (by omega),
  .c (JX _ _ ‹_› (by omega) (by omega):ae 330 [(ah (af d.m)),(iP (0-(d.e+(b:Int))))] _)]<|rQ (.agg [(bP d.neg),(ah (af (d.m/2^(Int.toNat (0-(d.e+(b:Int)))))))]) (.agg [(bP ((fM d b).1)),(ah (af ((fM d b).2)))]) (by unfold fM;rw[if_pos h])) (by kernel_rfl)
theorem JF(d:Dy)(hd:d.Valid)(b:Nat)(hb:b<=30000)(h:¬d.e+(b:Int)<0)(hs:(af (d.m*2^(Int.toNat (d.e+(b:Int))))).length<=256):ae 334 [(ag d),(iP b)] (.agg [(bP ((fM d b).1)),(ah (af ((fM d b).2)))]):=by
 have hx:=hd.exp;have z1:=hd.af;exact tr true Tryz.call334 Tryz.func334 (chain [ar (d.e+(b:Int)) (by omega),tB 11 (decide_eq_false h),ar (d.e+(b:Int)) (by omega),
  .c (vz _ _ ‹_› (by omega) (by omega) ‹_›:ae 329 [(ah (af d.m)),(iP (d.e+(b:Int)))] _)]<|rQ (.agg [(bP d.neg),(ah (af (d.m*2^(Int.toNat (d.e+(b:Int))))))]) (.agg [(bP ((fM d b).1)),(ah (af ((fM d b).2)))]) (by unfold fM;rw[if_neg h])) (by kernel_rfl)
theorem tR{d:Dy}{b K:Nat}(h:d.top+(b:Int)<=K):(fM d b).2<2^K:=by
 by_cases h0:d.m=0
 .have:(fM d b).2=0:=by unfold fM;simp only[h0];split<;>simp
  rw[this];exact Nat.pow_pos (by decide)
 .rw [rI h0]at h
  have hm:=gi d.m;unfold fM;simp only;split
  .rename_i hc
   obtain⟨k,hk⟩:∃ k,k=(0-(d.e+(b:Int))).toNat:=⟨_,rfl⟩
   rw[<-hk];by_cases hb:ak d.m<=k
   .rw [Nat.div_eq_of_lt (Nat.lt_of_lt_of_le hm (Nat.pow_le_pow_right (by decide) hb))];exact Nat.pow_pos (by decide)
   .refine (Nat.div_lt_iff_lt_mul (Nat.pow_pos (by decide))).2 (Nat.lt_of_lt_of_le hm ?_)
    rw[<-Nat.pow_add];exact Nat.pow_le_pow_right (by decide) (by omega)
  .rename_i hc
   obtain⟨k,hk⟩:∃ k,k=(d.e+(b:Int)).toNat:=⟨_,rfl⟩
   rw[<-hk];have:=Nat.mul_lt_mul_of_pos_right hm (Nat.pow_pos (n:=k) (show 0<2 by decide));rw[<-Nat.pow_add]at this;exact Nat.lt_of_lt_of_le this (Nat.pow_le_pow_right (by decide) (by omega))
theorem vC(d:Dy)(hd:d.Valid)(b K:Nat)(hb:b<=30000)(hK:K<=8192)(h:d.top+(b:Int)<=K):ae 334 [ag d,iP (b:Int)] (.agg [(bP ((fM d b).1)),(ah (af ((fM d b).2)))]):=by
 by_cases hc:d.e+(b:Int)<0
 .exact JG d hd b hb hc
 .refine JF d hd b hb hc ?_
  have:=tR h;unfold fM at this;rw[if_neg hc]at this;exact ch this hK
open Go.RowKit Fp Pu
def cL(f:Nat->Nat):Nat->Bool×Nat
 | 0=>(false,f 0)
 | k+1=>aU (cL f k) (decide ((k+1)%2=1),f (k+1)/(2*(k+1)+1))
theorem Ah{f:Nat->Nat}(hf:∀ k,f (k+1)<=f k):∀ n,(n%2=0->ew (cL f n)<=f 0/\(f 0:Int)-(f 1/3:Nat)<=ew (cL f n)-(f (n+1)/(2*(n+1)+1):Nat))/\(n%2=1->(f 0:Int)-(f 1/3:Nat)<=ew (cL f n)/\ew (cL f n)+(f (n+1)/(2*(n+1)+1):Nat)<=f 0)
 | 0=>⟨fun _=>⟨by simp[cL,ew],by simp[cL,ew]⟩,fun h=>by omega⟩
 | n+1=>by
  obtain⟨e,o⟩:=Ah hf n;have hq:f (n+1+1)/(2*(n+1+1)+1)<=f (n+1)/(2*(n+1)+1):=Nat.div_le_div (hf (n+1)) (by omega) (by omega);have hv:ew (cL f (n+1))=ew (cL f n)+ew (decide ((n+1)%2=1),f (n+1)/(2*(n+1)+1)):=wH _ _;generalize f (n+1)/(2*(n+1)+1)=q1 at *
  generalize f (n+1+1)/(2*(n+1+1)+1)=q2 at *
  generalize f 1/3=q0 at *
  rcases Nat.mod_two_eq_zero_or_one n with h|h
  .obtain ⟨e1,e2⟩:=e h
   rw[show decide ((n+1)%2=1)=true from decide_eq_true (by omega)]at hv;simp only[ew,if_true]at hv;exact⟨fun q=>by omega,fun _=>⟨by unfold ew at *;omega,by unfold ew at *;omega⟩⟩
  .obtain ⟨e1,e2⟩:=o h
   rw[show decide ((n+1)%2=1)=false from decide_eq_false (by omega)]at hv;simp only[ew,Bool.false_eq_true,if_false]at hv;exact⟨fun _=>⟨by unfold ew at *;omega,by unfold ew at *;omega⟩,fun q=>by omega⟩
theorem vk{f:Nat->Nat}(hf:∀ k,f (k+1)<=f k)(n:Nat):(cL f n).2<=f 0/\f 0<=(cL f n).2+f 1/3:=by
 have ht:=Ah hf n;have h1:f 1/3<=f 0:=Nat.le_trans (Nat.div_le_self _ _) (hf 0);have hb:(f 0:Int)-(f 1/3:Nat)<=ew (cL f n)/\ew (cL f n)<=f 0:=by
  rcases Nat.mod_two_eq_zero_or_one n with h|h
  .have:=ht.1 h
   generalize f (n+1)/(2*(n+1)+1)=q at *
   omega
  .have:=ht.2 h
   generalize f (n+1)/(2*(n+1)+1)=q at *
   omega
 generalize cL f n=s at *
 generalize f 1/3=q at *
 obtain⟨b,m⟩:=s;cases b
 .simp only[ew,Bool.false_eq_true,if_false]at hb ⊢;omega
 .simp only[ew,if_true]at hb ⊢;omega
theorem si{f:Nat->Nat}(hf:∀ k,f (k+1)<=f k):∀ k,f k<=f 0
 | 0=>Nat.le_refl _
 | k+1=>Nat.le_trans (hf k) (si hf k)
theorem oz{f:Nat->Nat}(hf:∀ k,f (k+1)<=f k){B:Nat}(hB:B<=8191)(hz:f 0<2^B)(k:Nat):(af (f k)).length<=256:=ch (Nat.lt_of_le_of_lt (si hf k) hz) (by omega)
theorem sj{f:Nat->Nat}(hf:∀ k,f (k+1)<=f k){B:Nat}(hB:B<=8191)(hz:f 0<2^B)(k:Nat):(af (cL f k).2).length<=256/\(af (f (k+1)/(2*(k+1)+1))).length<=256:=⟨ch (Nat.lt_of_le_of_lt (vk hf k).1 hz) (by omega),ch (Nat.lt_of_le_of_lt (Nat.le_trans (Nat.div_le_self _ _) (si hf (k+1))) hz) (by omega)⟩
theorem Ai{f:Nat->Nat}(hf:∀ k,f (k+1)<=f k){B:Nat}(hB:B<=8191)(hz:f 0<2^B)(k:Nat):(af ((cL f k).2+f (k+1)/(2*(k+1)+1))).length<=256:=by
 have h1:=(vk hf k).1;have h2:=Nat.le_trans (Nat.div_le_self (f (k+1)) (2*(k+1)+1)) (si hf (k+1));refine ch (k:=B+1) ?_ (by omega);rw[Nat.pow_succ];omega
def gE(n b:Nat):Nat->Nat
 | 0=>1*2^b/n
 | k+1=>gE n b k/(n*n)
theorem CX{n b:Nat}(hn:2<=n)(k:Nat):gE n b (k+1)*2<=gE n b k:=by
 show gE n b k/(n*n)*2<=_;have h1:gE n b k/(n*n)<=gE n b k/2:=Nat.div_le_div_left (by have:=Nat.mul_le_mul hn hn;omega) (by decide);omega
theorem wX(n b:Nat):gE n b 0<2^(b+1):=by
 show 1*2^b/n<_;rw[Nat.one_mul,Nat.pow_succ];have:=Nat.div_le_self (2^b) n;have:0<2^b:=Nat.pow_pos (by decide);omega
theorem NJ{n b:Nat}(hn:2<=n):∃ N,N<=b+1/\(∀ k,k<N->gE n b (k+1)≠0)/\gE n b (N+1)=0:=by
 obtain⟨N,h1,h2,h3⟩:=Ni (wX n b) (CX hn);rcases N with _|N
 .refine ⟨0,by omega,fun k hk=>absurd hk (Nat.not_lt_zero _),?_⟩
  have:=CX (b:=b) hn 0;omega
 .exact ⟨N,by omega,fun k hk=>h2 (k+1) (by omega),h3⟩
theorem PM{T x y f g:Nat}(hT:65536<=T)(hf:f=T/5)(hx1:x<=f)(hx2:f<=x+f/(5*5)/3)(hy:y<=T/239)(hg:g=(aU (false,x*2^4) (true,y*2^2)).2):2<=g/\g<=T*4/\g/2<=T*2:=by
 have h16:(2:Nat)^4=16:=rfl;have h4:(2:Nat)^2=4:=rfl;have e:g=x*16-y*4:=by
  rw[hg,h16,h4];unfold aU;rw[if_neg (show ¬false=true from Bool.false_ne_true),if_neg (by show ¬x*16<y*4;omega)]
 omega
open Go.RowKit Fp Pu
def Ag(f:Nat->Nat)(g:FuncId)(cap:List E)(N:Nat)(x:Nat):PS:=⟨30,true,[(6,.e (iP (((x+1):Nat):Int))),(5,.box 5 0),(4,.box 4 0),(2,.box 2 0),(1,.e (.fn g cap))],[(5,.cells 209 [(bP ((cL f x).1)),(ah (af ((cL f x).2)))]),(4,.cells 209 [(bP false),(.v (.slice none 0 0))]),(2,.cells 209 [(bP false),(ah (af (f x)))])]⟩
theorem I9(f:Nat->Nat)(g:FuncId)(cap:List E)(N:Nat)(hp:∀ k,k<=N->ae g ((.agg [(bP false),(ah (af (f k)))])::cap) (.agg [(bP false),(ah (af (f (k+1))))]))(hf:∀ k,f (k+1)<=f k)(B:Nat)(hB:B<=8191)(hz:f 0<2^B)(h0:∀ k,k<N->f (k+1)≠0)(hN:f (N+1)=0)(hN2:N<=100000):ae 346 [(.agg [(bP false),(ah (af (f 0)))]),(.fn g cap)] (.agg [(bP ((cL f N).1)),(ah (af ((cL f N).2)))]):=by
 have z00:=oz hf hB hz 0;exact tr true Tryz.call346 Tryz.func346 (chain [.s (Sp.upto (Ag f g cap N) 0 N (by omega) (fun x hx hltx=>by
    have z1:=oz hf hB hz (x+1);have z0:=oz hf hB hz x;have zs:=(sj hf hB hz x).1;have zt:=(sj hf hB hz x).2;have zu:=Ai hf hB hz x;by_cases ho:(x+1)%2=1
    .exact aB (chain [.c (hp x (by omega):ae g ((.agg [(bP false),(ah (af (f x)))])::cap) _),.c (ku (false,(f (x+1))) ‹_›:ae 336 [(.agg [(bP false),(ah (af (f (x+1))))])] _),tF 15 ((f (x+1))=0) (h0 x (by omega)),
      ar (2*(((x+1):Nat):Int)) (by omega),ar ((((2*(x+1)):Nat):Int)+1) (by omega),
      .c (kZ (false,(f (x+1))) ‹_› ((2*(x+1))+1) (by omega) (by omega):ae 342 [(.agg [(bP false),(ah (af (f (x+1))))]),(iP ((((2*(x+1))+1):Nat):Int))] _),.a (by omega:0<(2:Int)),
      tB 24 (by rw[ho];rfl:(((((x+1)%2):Nat):Int)==1)=true),.c (jt (false,((f (x+1))/((2*(x+1))+1))):ae 326 [(.agg [(bP false),(ah (af ((f (x+1))/((2*(x+1))+1))))])] _),
      .c (ic (cL f x) ‹_› ((!false),((f (x+1))/((2*(x+1))+1))) ‹_› ‹_›:ae 335 [(.agg [(bP ((cL f x).1)),(ah (af ((cL f x).2)))]),(.agg [(bP (!false)),(ah (af ((f (x+1))/((2*(x+1))+1))))])] _),
      ar ((((x+1):Nat):Int)+1) (by omega)] <| .e (chain [.b 5 (.of_eq (by first|rfl|simp[cL,ho]):Bx.le (.cells 209 [(bP ((aU (cL f x) ((!false),((f (x+1))/((2*(x+1))+1)))).1)),(ah (af ((aU (cL f x) ((!false),((f (x+1))/((2*(x+1))+1)))).2)))]) (.cells 209 [(bP ((cL f (x+1)).1)),(ah (af ((cL f (x+1)).2)))]))] <| .nil)) (by kernel_rfl)
    .exact aB (chain [.c (hp x (by omega):ae g ((.agg [(bP false),(ah (af (f x)))])::cap) _),.c (ku (false,(f (x+1))) ‹_›:ae 336 [(.agg [(bP false),(ah (af (f (x+1))))])] _),tF 15 ((f (x+1))=0) (h0 x (by omega)),
      ar (2*(((x+1):Nat):Int)) (by omega),ar ((((2*(x+1)):Nat):Int)+1) (by omega),
      .c (kZ (false,(f (x+1))) ‹_› ((2*(x+1))+1) (by omega) (by omega):ae 342 [(.agg [(bP false),(ah (af (f (x+1))))]),(iP ((((2*(x+1))+1):Nat):Int))] _),.a (by omega:0<(2:Int)),
      tB 24 (by simp;omega:(((((x+1)%2):Nat):Int)==1)=false),
      .c (ic (cL f x) ‹_› (false,((f (x+1))/((2*(x+1))+1))) ‹_› ‹_›:ae 335 [(.agg [(bP ((cL f x).1)),(ah (af ((cL f x).2)))]),(.agg [(bP false),(ah (af ((f (x+1))/((2*(x+1))+1))))])] _),
      ar ((((x+1):Nat):Int)+1) (by omega)] <| .e (chain [.b 5 (.of_eq (by first|rfl|simp[cL,ho]):Bx.le (.cells 209 [(bP ((aU (cL f x) (false,((f (x+1))/((2*(x+1))+1)))).1)),(ah (af ((aU (cL f x) (false,((f (x+1))/((2*(x+1))+1)))).2)))]) (.cells 209 [(bP ((cL f (x+1)).1)),(ah (af ((cL f (x+1)).2)))]))] <| .nil)) (by kernel_rfl))
  (fun hx=>by
    have z1:=oz hf hB hz (N+1);have z0:=oz hf hB hz N;have zs:=(sj hf hB hz N).1;have zt:=(sj hf hB hz N).2;have zu:=Ai hf hB hz N
    exact aB (chain [.c (hp N (by omega):ae g ((.agg [(bP false),(ah (af (f N)))])::cap) _),.c (ku (false,(f (N+1))) ‹_›:ae 336 [(.agg [(bP false),(ah (af (f (N+1))))])] _),tB 15 (decide_eq_true hN)] <| .nil) (by kernel_rfl)) (by nofun):bD 4 Tryz.f346 (Ag f g cap N 0) .ret ⟨30,true,[(4,.box 4 0)],[(4,.cells 209 [(bP ((cL f N).1)),(ah (af ((cL f N).2)))])]⟩) (chain [.o 6 (.int (by first|rfl|omega|(simp only[Nat.add_mul,Nat.one_mul];omega)):PV.le (.e (iP 1)) (.e (iP (((0+1):Nat):Int)))),
  .b 5 (.of_eq (by first|rfl|simp[cL,ho]):Bx.le (.cells 209 [(bP false),(ah (af (f 0)))]) (.cells 209 [(bP ((cL f 0).1)),(ah (af ((cL f 0).2)))]))] <| .nil)] <| .nil) (by kernel_rfl)
theorem JB(m n:Nat)(hm:(af m).length<=256)(hn0:n≠0)(hn:n<60000):ae 347 [(.agg [(bP false),(ah (af m))]),(.ref 1 fun j_=>[(iP n)].getD j_ .any)] (.agg [(bP false),(ah (af (m/(n*n))))]):=by
 have hnn:n*n<3600000000:=Nat.mul_lt_mul_of_lt_of_lt hn hn;have hnz:n*n≠0:=Nat.mul_ne_zero hn0 hn0;exact tr true Tryz.call347 Tryz.func347 (chain [ar ((n:Int)*(n:Int)) (by omega),.c (kZ (false,m) ‹_› (n*n) (by omega) (by omega):ae 342 [(.agg [(bP false),(ah (af m))]),(iP (((n*n):Nat):Int))] _)] <| .nil) (by kernel_rfl)
theorem JC(n b:Nat)(S:Bool×Nat)(hn0:n≠0)(hn:n<60000)(hb:b<=8000)(hS:ae 346 [(.agg [(bP false),(ah (af (1*2^b/n)))]),.fn 347 [(.ref 1 fun j_=>[(iP n)].getD j_ .any)]] (.agg [(bP S.1),(ah (af S.2))])):ae 343 [(iP n),(iP b)] (.agg [(bP S.1),(ah (af S.2))]):=by
 have z0:(af 1).length<=256:=ig (by decide);have z1:(af (1*2^b)).length<=256:=ch (k:=b+1) (by rw[Nat.pow_succ,Nat.one_mul];have:0<2^b:=Nat.pow_pos (by decide);omega) (by omega)
 exact tr true Tryz.call343 Tryz.func343 (chain [.o 6 (.e one_le:PV.le (.e (.sl false 1 1 fun i_ j_=>[(.v (.int .u32 1))].getD (i_*1+j_) (.v (.bool false)))) (.e (ah (af 1)))),.c (mg 1 b ‹_› (by omega) ‹_›),
  .c (kZ (false,(1*2^b)) ‹_› n (by omega) (by omega):ae 342 [(.agg [(bP false),(ah (af (1*2^b)))]),(iP n)] _),
  .c (hS:ae 346 [(.agg [(bP false),(ah (af ((1*2^b)/n)))]),(.fn 347 [(.ref 1 fun j_=>[(iP n)].getD j_ .any)])] _)] <| .nil) (by kernel_rfl)
theorem A8(n b:Nat)(hn0:2<=n)(hn:n<60000)(hb:b<=8000):∃ S:Bool×Nat,S.2<=2^b/n/\2^b/n<=S.2+2^b/n/(n*n)/3/\ae 343 [iP (n:Int),iP (b:Int)] (.agg [(bP S.1),(ah (af S.2))]):=by
 obtain⟨N,h1,h2,h3⟩:=NJ (b:=b) hn0;have hf:∀ k,gE n b (k+1)<=gE n b k:=fun k=>Nat.div_le_self _ _
 obtain⟨r1,r2⟩:=vk hf N;have e0:gE n b 0=2^b/n:=by show 1*2^b/n=_;rw[Nat.one_mul]
 have e1:gE n b 1=2^b/n/(n*n):=by show gE n b 0/(n*n)=_;rw[e0]
 refine⟨cL (gE n b) N,by rw[<-e0];exact r1,by rw[<-e1,<-e0];exact r2,?_⟩;exact JC n b _ (by omega) hn hb (I9 (gE n b) 347 _ N (fun k _=>JB (gE n b k) n (oz hf (show b+1<=8191 by omega) (wX n b) k) (by omega) hn) hf (b+1) (by omega) (wX n b) h2 h3 (by omega))
theorem JH(b:Nat)(x y:Bool×Nat)(zx:x.2<2^b)(zy:y.2<2^b)(hb:b<=8000)(hx:ae 343 [iP ((5:Nat):Int),iP (b:Int)] (.agg [(bP x.1),(ah (af x.2))]))(hy:ae 343 [iP ((239:Nat):Int),iP (b:Int)] (.agg [(bP y.1),(ah (af y.2))])):ae 328 [(iP b)] (.agg [(bP ((aU (false,x.2*2^4) (true,y.2*2^2)).1)),(ah (af ((aU (false,x.2*2^4) (true,y.2*2^2)).2)))]):=by
 have z1:(af x.2).length<=256:=ch zx (by omega);have z2:(af y.2).length<=256:=ch zy (by omega);have e5:2^(b+5)=2^b*32:=by rw[Nat.pow_add]
 have z3:(af (x.2*2^4)).length<=256:=ch (k:=b+5) (by omega) (by omega);have z4:(af (y.2*2^2)).length<=256:=ch (k:=b+5) (by omega) (by omega);have z5:(af (x.2*2^4+y.2*2^2)).length<=256:=ch (k:=b+5) (by omega) (by omega)
 exact tr true Tryz.call328 Tryz.func328 (chain [.c (hx:ae 343 [(iP 5),(iP b)] _),.c (hy:ae 343 [(iP 239),(iP b)] _),.c (mg x.2 4 ‹_› (by omega) ‹_›),.c (mg y.2 2 ‹_› (by omega) ‹_›),
  .c (ic (false,(x.2*2^4)) ‹_› (true,(y.2*2^2)) ‹_› ‹_›:ae 335 [(.agg [(bP false),(ah (af (x.2*2^4)))]),(.agg [(bP true),(ah (af (y.2*2^2)))])] _)] <| .nil) (by kernel_rfl)
theorem A9(b:Nat)(hb1:16<=b)(hb:b<=8000):∃ c:Bool×Nat,2<=c.2/\c.2<=2^b*4/\c.2/2<=2^b*2/\ae 328 [iP (b:Int)] (.agg [(bP c.1),(ah (af c.2))]):=by
 obtain⟨x,x1,x2,hx⟩:=A8 5 b (by decide) (by decide) hb;obtain⟨y,y1,y2,hy⟩:=A8 239 b (by decide) (by decide) hb;have hT:65536<=2^b:=by have:=Nat.pow_le_pow_right (show 0<2 by decide) hb1;omega
 obtain⟨g1,g2,g3⟩:=PM hT rfl x1 x2 y1 rfl;exact⟨_,g1,g2,g3,JH b x y (by omega) (by omega) hb hx hy⟩
open Go.RowKit Fp Pu
theorem GA(n:Nat)(h:n<4294967296):bits .and .u32 (n:Int) 3=((n%4:Nat):Int):=by
 have:=bits_and_u32_nat n 3 h (by decide);rw[show((3:Int))=((3:Nat):Int)from rfl,this];exact congrArg _ (Nat.and_two_pow_sub_one_eq_mod n 2)
theorem No(k:Nat)(h:k<=3):bits .and .i64 (4-(k:Int)) 3=(((4-k)%4:Nat):Int):=by
 rcases(show k=0\/k=1\/k=2\/k=3 by omega)with rfl|rfl|rfl|rfl<;>decide
theorem L8{x:Bool×Nat}{m:Nat}(h:m<=x.2):aU x (!x.1,m)=(x.1,x.2-m):=by
 unfold aU;rw[if_neg (by show ¬x.1 = !x.1;cases x.1<;>decide),if_neg (by show ¬x.2<m;omega)]
theorem QK(n:Nat):n%4<=3:=by omega
theorem QJ(n:Nat):(4-n)%4<=3:=by omega
theorem QL{x:Bool×Nat}{H b t:Nat}(h0:1<=H)(hH:H<=2^(b+t+40)*2):(aU x (!x.1,x.2/H*H)).2/2^(t+40)<=2^(b+1):=by
 rw[L8 (Nat.div_mul_le_self _ _)];show(x.2-x.2/H*H)/_<=_;have h1:x.2-x.2/H*H=x.2%H:=by
  have:=Nat.div_add_mod x.2 H;rw[Nat.mul_comm H]at this;omega
 have h2:=Nat.mod_lt x.2 (show 0<H by omega);rw[h1];refine Nat.div_le_of_le_mul (Nat.le_trans (Nat.le_of_lt h2) (Nat.le_trans hH (Nat.le_of_eq ?_)));rw[<-Nat.pow_add,show t+40+(b+1)=b+t+40+1 by omega];exact(Nat.pow_succ 2 (b+t+40)).symm
def bB(x:Bool×Nat):Nat->Bool
 | 0=>false
 | k+1=>(bB x k != x.1)
def aW(x:Bool×Nat)(b:Nat):Nat->(Bool×Nat)×(Bool×Nat)
 | 0=>((false,0),(false,1*2^b))
 | k+1=>if(k+1)%2=1 then(aU (aW x b k).1 ((if 2<=(k+1)%4 then !(bB x (k+1))else bB x (k+1)),aP x.2 b (k+1)),(aW x b k).2)
  else((aW x b k).1,aU (aW x b k).2 ((if 2<=(k+1)%4 then !(bB x (k+1))else bB x (k+1)),aP x.2 b (k+1)))
theorem FK{x:Bool×Nat}{b:Nat}(h:x.2<=2^(b+1)):∀ k,(aW x b k).1.2<=(k+1)*2^(b+1)/\(aW x b k).2.2<=(k+1)*2^(b+1)
 | 0=>⟨Nat.zero_le _,by show 1*2^b<=_;have:=Nat.pow_succ (n:=2) (m:=b);omega⟩
 | k+1=>by
  obtain⟨h1,h2⟩:=FK h k;have h3:=qq h (k+1);have h4:(k+1+1)*2^(b+1)=(k+1)*2^(b+1)+2^(b+1):=Nat.succ_mul _ _;unfold aW;split
  .refine ⟨Nat.le_trans (kv _ _) ?_,by rw[h4];exact Nat.le_trans h2 (Nat.le_add_right _ _)⟩
   rw[h4];exact Nat.add_le_add h1 h3
  .refine ⟨by rw[h4];exact Nat.le_trans h1 (Nat.le_add_right _ _),Nat.le_trans (kv _ _) ?_⟩
   rw[h4];exact Nat.add_le_add h2 h3
theorem FL{x:Bool×Nat}{b:Nat}(h:x.2<=2^(b+1))(hb:b<=3000){k:Nat}(hk:k<=b+5):(aW x b k).1.2<2^(b+14)/\(aW x b k).2.2<2^(b+14):=by
 obtain⟨h1,h2⟩:=FK h k;have h3:(k+1)*2^(b+1)<2^(b+14):=by
  rw[show b+14=13+(b+1)by omega,Nat.pow_add 2 13];exact Nat.mul_lt_mul_of_pos_right (by omega) (Nat.pow_pos (by decide))
 exact⟨Nat.lt_of_le_of_lt h1 h3,Nat.lt_of_le_of_lt h2 h3⟩
theorem Mm{T:TypeId}:Bx.le (.cells T [bP false,.v (.slice none 0 0)]) (.cells T [bP false,ah (af 0)]) :=
 .cells (fun _=>rfl) (.cons (.refl _) (.cons nK .nil))
structure He(x:Bool×Nat)(b k:Nat):Prop where
 t0:(af (aP x.2 b k)).length<=256
 t1:(af (aP x.2 b (k+1))).length<=256
 tm:(af (aP x.2 b k*x.2)).length<=256
 tq:(af (aP x.2 b k*x.2/2^b)).length<=256
 s0:(af (aW x b k).1.2).length<=256
 c0:(af (aW x b k).2.2).length<=256
 s1:(af ((aW x b k).1.2+aP x.2 b (k+1))).length<=256
 c1:(af ((aW x b k).2.2+aP x.2 b (k+1))).length<=256
theorem FJ{x:Bool×Nat}{b:Nat}(h:x.2<=2^(b+1))(hb:b<=3000){k:Nat}(hk:k<=b+5):He x b k:=by
 have hp:(2:Nat)^(b+2)=2^(b+1)*2:=Nat.pow_succ _ _;have hq:(0:Nat)<2^(b+1):=Nat.pow_pos (by decide);have t0:=qq h k;have t1:=qq h (k+1);obtain⟨s,c⟩:=FL h hb hk;have hm:aP x.2 b k*x.2<2^(b+2+(b+2)):=by
  rw[Nat.pow_add];exact Nat.mul_lt_mul_of_lt_of_lt (by omega) (by omega)
 have e14:(2:Nat)^(b+15)=2^(b+14)*2:=Nat.pow_succ _ _;have e13:(2:Nat)^(b+1)<=2^(b+14):=Nat.pow_le_pow_right (by decide) (by omega);exact⟨ch (k:=b+2) (by omega) (by omega),ch (k:=b+2) (by omega) (by omega),ch hm (by omega),ch (Nat.lt_of_le_of_lt (Nat.div_le_self _ _) hm) (by omega),
  ch s (by omega),ch c (by omega),ch (k:=b+15) (by omega) (by omega),ch (k:=b+15) (by omega) (by omega)⟩
theorem DF{s:Bool}{m b:Nat}(h:m<2^4000)(hb:b<=8000):cY (canon s m (-(b:Int))):=by
 by_cases h0:m=0
 .subst h0;exact .inl rfl
 .have e:canon s m (-(b:Int))=⟨s,m/2^aY m,-(b:Int)+aY m⟩:=by unfold canon;rw[if_neg h0]
  have h1:ak m<=4000:=cv.2 h;have h2:=jN (Nat.div_le_self m (2^aY m));have h3:aY m<=4000:=by
   have:=q7 h0;apply Classical.byContradiction;intro hc;have:=Nat.pow_le_pow_right (show 0<2 by decide) (show 4000<=aY m by omega);omega
  rw[e];exact .inr ⟨by show ak (m/2^aY m)<=4096;omega,by show -16384 <= -(b:Int)+aY m;omega,by show -(b:Int)+aY m<=16384;omega,by show(ak (m/2^aY m):Int)+(-(b:Int)+aY m)<=16384;omega⟩
theorem ua{a b i j n:Nat}(ha:a<2^i)(hb:b<2^j)(hi:i<=n)(hj:j<=n):a+b<2^(n+1):=by
 have h1:=Nat.pow_le_pow_right (show 0<2 by decide) hi;have h2:=Nat.pow_le_pow_right (show 0<2 by decide) hj;have e:2^(n+1)=2^n*2:=Nat.pow_succ _ _;omega
theorem L9{a b:Bool×Nat}{i j n:Nat}(ha:a.2<2^i)(hb:b.2<2^j)(hi:i<=n)(hj:j<=n):(aU a b).2<2^(n+1):=Nat.lt_of_le_of_lt (kv _ _) (ua ha hb hi hj)
theorem DG{s:Bool}{m:Nat}{e:Int}(h:cY (canon s m e)):(canon s m e).Valid:=⟨gY _ _ _,h⟩
theorem q8{m i k:Nat}(h:m<2^i)(hk:i<=k):m<2^k:=Nat.lt_of_lt_of_le h (Nat.pow_le_pow_right (by decide) hk)
def eF(a c:Bool×Nat):Bool×Nat:=if a.1=true/\a.2%c.2≠0 then aU (a.1,a.2/c.2) (true,1)else(a.1,a.2/c.2)
theorem Cs(a c:Bool×Nat):(eF a c).2<=a.2/c.2+1:=by
 unfold eF;split
 .exact kv _ _
 .exact Nat.le_succ _
theorem Mj(a c:Bool×Nat):(eF a c).2*c.2<=a.2+c.2:=by
 refine Nat.le_trans (Nat.mul_le_mul_right c.2 (Cs a c)) ?_;rw[Nat.succ_mul];exact Nat.add_le_add_right (Nat.div_mul_le_self _ _) _
theorem Dw{lo hi:Dy}{e f:Int}(h:e≠0\/f≠0):ck lo e hi f=aj:=if_pos h
theorem OL{lo hi:Dy}{e f:Int}(h:e=0)(k:f=0):ck lo e hi f=⟨lo,hi,false⟩:=if_neg (by rw[h,k];decide)
open Go.RowKit Fp Pu
def FE(x:Bool×Nat)(b N:Nat)(i:Nat):PS:=⟨43,true,[(8,.e (iP (((i+1):Nat):Int))),(7,.box 7 0),(5,.box 5 0),(4,.box 4 0),(2,.box 2 0),(1,.e (iP b))],[(5,.cells 209 [(bP (((aW x b i).2).1)),(ah (af (((aW x b i).2).2)))]),(7,.cells 209 [(bP (bB x i)),(ah (af (aP x.2 b i)))]),(4,.cells 209 [(bP (((aW x b i).1).1)),(ah (af (((aW x b i).1).2)))]),(2,.cells 209 [(bP x.1),(ah (af x.2))])]⟩
theorem tA(n i:Nat):(af n).getD i 0<4294967296:=by
 by_cases h:i<(af n).length
 .rw [List.getD_eq_getElem?_getD,List.getElem?_eq_getElem h]
  exact cA n _ (List.getElem_mem h)
 .rw [List.getD_eq_getElem?_getD,List.getElem?_eq_none (by omega)];decide
theorem JV(d:Dy)(b t m:Nat)(cp:Bool×Nat)(hd:d.Valid)(ht:t=d.top.toNat)(hb1:16<=b)(hb2:b<=2000)(ht2:t<=2000)(K:Nat)(hK:K<=6000)(zx:m<2^K)(zc:2<=cp.2)(zd:(af cp.2).length<=256)(hPi:ae 328 [iP ((((b+t)+40):Nat):Int)] (.agg [(bP cp.1),(ah (af cp.2))]))(hOf:ae 334 [ag d,iP ((((b+t)+40):Nat):Int)] (.agg [(bP true),(ah (af m))]))(hn:0<(af (m/(cp.2/2^1))).length):ae 324 [(ag d),(iP b)] (.aq [(.agg [(bP ((aU (true,m) (false,((m/(cp.2/2^1))*(cp.2/2^1)))).1)),(ah (af ((aU (true,m) (false,((m/(cp.2/2^1))*(cp.2/2^1)))).2/2^(t+40))))]),(iP ((((4-((af (m/(cp.2/2^1))).getD 0 0%4))%4):Nat):Int))]):=by
 have ht3:=rH hd;have zX:(af m).length<=256:=ch zx (by omega);have zH:(af (cp.2/2^1)).length<=256:=Nat.le_trans (cJ (Nat.div_le_self _ _)) zd;have nH:(cp.2/2^1)≠0:=by omega
 have mM:((m/(cp.2/2^1))*(cp.2/2^1))<=m:=Nat.div_mul_le_self _ _;have zN:(af (m/(cp.2/2^1))).length<=256:=Nat.le_trans (cJ (Nat.div_le_self _ _)) zX;have zM:(af ((m/(cp.2/2^1))*(cp.2/2^1))).length<=256:=Nat.le_trans (cJ mM) zX;have zA:(af (m+((m/(cp.2/2^1))*(cp.2/2^1)))).length<=256:=ch (k:=K+1) (by have:=Nat.pow_succ 2 K;omega) (by omega)
 have zR:(af (aU (true,m) (false,((m/(cp.2/2^1))*(cp.2/2^1)))).2).length<=256:=Nat.le_trans (cJ (kv _ _)) zA;have zm:(af (m%(cp.2/2^1))).length<=256:=Nat.le_trans (cJ (Nat.mod_le _ _)) zX;have hg:(af (m/(cp.2/2^1))).getD 0 0<4294967296:=tA _ 0;have h4:(af (m/(cp.2/2^1))).getD 0 0%4<=3:=by omega
 exact tr true Tryz.call324 Tryz.func324 (chain [.c (bR _ ‹_›:ae 130 [(ag d)] _),.o 19 (.int (by split<;>omega):PV.le (.e (iP (if 0>(Dy.top d)then 0 else(Dy.top d)))) (.e (iP t))),ar ((b:Int)+(t:Int)) (by omega),
  ar ((((b+t):Nat):Int)+40) (by omega),.c (hPi:ae 328 [(iP ((((b+t)+40):Nat):Int))] _),.c (jO cp.2 1 ‹_› (by omega)),.c (hOf:ae 334 [(ag d),(iP ((((b+t)+40):Nat):Int))] _),
  .c (lp _ _ (by omega) (by omega) ‹_›:ae 296 [(ah (af m)),(ah (af (cp.2/2^1)))] _),
  .c (lq _ _ ‹_› ‹_› ‹_›:ae 181 [(ah (af (m/(cp.2/2^1)))),(ah (af (cp.2/2^1)))] _),
  .c (ic (true,m) ‹_› (false,((m/(cp.2/2^1))*(cp.2/2^1))) ‹_› ‹_›:ae 335 [(.agg [(bP true),(ah (af m))]),(.agg [(bP false),(ah (af ((m/(cp.2/2^1))*(cp.2/2^1))))])] _),
  tT 61 (0<(((af (m/(cp.2/2^1))).length:Nat):Int)) (by omega),iX (0) ((af (m/(cp.2/2^1))).length) (by omega),
  .o 65 (.int (GA _ (by omega)):PV.le (.e (.v (.int .u32 (bits .and .u32 ((((af (m/(cp.2/2^1))).getD 0 0):Nat):Int) 3)))) (.e (.v (.int .u32 (((((af (m/(cp.2/2^1))).getD 0 0)%4):Nat):Int))))),
  .o 66 (.int (CO _ (by omega)):PV.le (.e (iP (IntKind.i64.wrap (((((af (m/(cp.2/2^1))).getD 0 0)%4):Nat):Int)))) (.e (iP (((((af (m/(cp.2/2^1))).getD 0 0)%4):Nat):Int)))),
  ar (4-(((((af (m/(cp.2/2^1))).getD 0 0)%4):Nat):Int)) (by omega),
  .o 71 (.int (No _ (by omega)):PV.le (.e (iP (bits .and .i64 (4-(((((af (m/(cp.2/2^1))).getD 0 0)%4):Nat):Int)) 3))) (.e (iP ((((4-((af (m/(cp.2/2^1))).getD 0 0%4))%4):Nat):Int)))),
  ar ((t:Int)+40) (by omega),.c (jO ((aU (true,m) (false,((m/(cp.2/2^1))*(cp.2/2^1)))).2) (t+40) ‹_› (by omega))] <| .nil) (by kernel_rfl)
theorem JT(d:Dy)(b t m:Nat)(cp:Bool×Nat)(hd:d.Valid)(ht:t=d.top.toNat)(hb1:16<=b)(hb2:b<=2000)(ht2:t<=2000)(K:Nat)(hK:K<=6000)(zx:m<2^K)(zc:2<=cp.2)(zd:(af cp.2).length<=256)(hPi:ae 328 [iP ((((b+t)+40):Nat):Int)] (.agg [(bP cp.1),(ah (af cp.2))]))(hOf:ae 334 [ag d,iP ((((b+t)+40):Nat):Int)] (.agg [(bP true),(ah (af m))]))(hn:¬0<(af (m/(cp.2/2^1))).length):ae 324 [(ag d),(iP b)] (.aq [(.agg [(bP ((aU (true,m) (false,((m/(cp.2/2^1))*(cp.2/2^1)))).1)),(ah (af ((aU (true,m) (false,((m/(cp.2/2^1))*(cp.2/2^1)))).2/2^(t+40))))]),(iP 0)]):=by
 have ht3:=rH hd;have zX:(af m).length<=256:=ch zx (by omega);have zH:(af (cp.2/2^1)).length<=256:=Nat.le_trans (cJ (Nat.div_le_self _ _)) zd;have nH:(cp.2/2^1)≠0:=by omega
 have mM:((m/(cp.2/2^1))*(cp.2/2^1))<=m:=Nat.div_mul_le_self _ _;have zN:(af (m/(cp.2/2^1))).length<=256:=Nat.le_trans (cJ (Nat.div_le_self _ _)) zX;have zM:(af ((m/(cp.2/2^1))*(cp.2/2^1))).length<=256:=Nat.le_trans (cJ mM) zX;have zA:(af (m+((m/(cp.2/2^1))*(cp.2/2^1)))).length<=256:=ch (k:=K+1) (by have:=Nat.pow_succ 2 K;omega) (by omega)
 have zR:(af (aU (true,m) (false,((m/(cp.2/2^1))*(cp.2/2^1)))).2).length<=256:=Nat.le_trans (cJ (kv _ _)) zA;have zm:(af (m%(cp.2/2^1))).length<=256:=Nat.le_trans (cJ (Nat.mod_le _ _)) zX;have hg:(af (m/(cp.2/2^1))).getD 0 0<4294967296:=tA _ 0;have h4:(af (m/(cp.2/2^1))).getD 0 0%4<=3:=by omega
 exact tr true Tryz.call324 Tryz.func324 (chain [.c (bR _ ‹_›:ae 130 [(ag d)] _),.o 19 (.int (by split<;>omega):PV.le (.e (iP (if 0>(Dy.top d)then 0 else(Dy.top d)))) (.e (iP t))),ar ((b:Int)+(t:Int)) (by omega),
  ar ((((b+t):Nat):Int)+40) (by omega),.c (hPi:ae 328 [(iP ((((b+t)+40):Nat):Int))] _),.c (jO cp.2 1 ‹_› (by omega)),.c (hOf:ae 334 [(ag d),(iP ((((b+t)+40):Nat):Int))] _),
  .c (lp _ _ (by omega) (by omega) ‹_›:ae 296 [(ah (af m)),(ah (af (cp.2/2^1)))] _),
  .c (lq _ _ ‹_› ‹_› ‹_›:ae 181 [(ah (af (m/(cp.2/2^1)))),(ah (af (cp.2/2^1)))] _),
  .c (ic (true,m) ‹_› (false,((m/(cp.2/2^1))*(cp.2/2^1))) ‹_› ‹_›:ae 335 [(.agg [(bP true),(ah (af m))]),(.agg [(bP false),(ah (af ((m/(cp.2/2^1))*(cp.2/2^1))))])] _),
  tF 61 (0<(((af (m/(cp.2/2^1))).length:Nat):Int)) (by omega),ar (4-0) (by omega),.o 71 (.int (by decide):PV.le (.e (iP (bits .and .i64 (4-0) 3))) (.e (iP 0))),ar ((t:Int)+40) (by omega),
  .c (jO ((aU (true,m) (false,((m/(cp.2/2^1))*(cp.2/2^1)))).2) (t+40) ‹_› (by omega))] <| .nil) (by kernel_rfl)
theorem JW(d:Dy)(b t m:Nat)(cp:Bool×Nat)(hd:d.Valid)(ht:t=d.top.toNat)(hb1:16<=b)(hb2:b<=2000)(ht2:t<=2000)(K:Nat)(hK:K<=6000)(zx:m<2^K)(zc:2<=cp.2)(zd:(af cp.2).length<=256)(hPi:ae 328 [iP ((((b+t)+40):Nat):Int)] (.agg [(bP cp.1),(ah (af cp.2))]))(hOf:ae 334 [ag d,iP ((((b+t)+40):Nat):Int)] (.agg [(bP false),(ah (af m))]))(hn:0<(af (m/(cp.2/2^1))).length):ae 324 [(ag d),(iP b)] (.aq [(.agg [(bP ((aU (false,m) (true,((m/(cp.2/2^1))*(cp.2/2^1)))).1)),(ah (af ((aU (false,m) (true,((m/(cp.2/2^1))*(cp.2/2^1)))).2/2^(t+40))))]),(iP ((((af (m/(cp.2/2^1))).getD 0 0%4):Nat):Int))]):=by
 have ht3:=rH hd;have zX:(af m).length<=256:=ch zx (by omega);have zH:(af (cp.2/2^1)).length<=256:=Nat.le_trans (cJ (Nat.div_le_self _ _)) zd;have nH:(cp.2/2^1)≠0:=by omega
 have mM:((m/(cp.2/2^1))*(cp.2/2^1))<=m:=Nat.div_mul_le_self _ _;have zN:(af (m/(cp.2/2^1))).length<=256:=Nat.le_trans (cJ (Nat.div_le_self _ _)) zX;have zM:(af ((m/(cp.2/2^1))*(cp.2/2^1))).length<=256:=Nat.le_trans (cJ mM) zX;have zA:(af (m+((m/(cp.2/2^1))*(cp.2/2^1)))).length<=256:=ch (k:=K+1) (by have:=Nat.pow_succ 2 K;omega) (by omega)
 have zR:(af (aU (false,m) (true,((m/(cp.2/2^1))*(cp.2/2^1)))).2).length<=256:=Nat.le_trans (cJ (kv _ _)) zA;have zm:(af (m%(cp.2/2^1))).length<=256:=Nat.le_trans (cJ (Nat.mod_le _ _)) zX;have hg:(af (m/(cp.2/2^1))).getD 0 0<4294967296:=tA _ 0;have h4:(af (m/(cp.2/2^1))).getD 0 0%4<=3:=by omega
 exact tr true Tryz.call324 Tryz.func324 (chain [.c (bR _ ‹_›:ae 130 [(ag d)] _),.o 19 (.int (by split<;>omega):PV.le (.e (iP (if 0>(Dy.top d)then 0 else(Dy.top d)))) (.e (iP t))),ar ((b:Int)+(t:Int)) (by omega),
  ar ((((b+t):Nat):Int)+40) (by omega),.c (hPi:ae 328 [(iP ((((b+t)+40):Nat):Int))] _),.c (jO cp.2 1 ‹_› (by omega)),.c (hOf:ae 334 [(ag d),(iP ((((b+t)+40):Nat):Int))] _),
  .c (lp _ _ (by omega) (by omega) ‹_›:ae 296 [(ah (af m)),(ah (af (cp.2/2^1)))] _),
  .c (lq _ _ ‹_› ‹_› ‹_›:ae 181 [(ah (af (m/(cp.2/2^1)))),(ah (af (cp.2/2^1)))] _),
  .c (ic (false,m) ‹_› (true,((m/(cp.2/2^1))*(cp.2/2^1))) ‹_› ‹_›:ae 335 [(.agg [(bP false),(ah (af m))]),(.agg [(bP true),(ah (af ((m/(cp.2/2^1))*(cp.2/2^1))))])] _),
  tT 61 (0<(((af (m/(cp.2/2^1))).length:Nat):Int)) (by omega),iX (0) ((af (m/(cp.2/2^1))).length) (by omega),
  .o 65 (.int (GA _ (by omega)):PV.le (.e (.v (.int .u32 (bits .and .u32 ((((af (m/(cp.2/2^1))).getD 0 0):Nat):Int) 3)))) (.e (.v (.int .u32 (((((af (m/(cp.2/2^1))).getD 0 0)%4):Nat):Int))))),
  .o 66 (.int (CO _ (by omega)):PV.le (.e (iP (IntKind.i64.wrap (((((af (m/(cp.2/2^1))).getD 0 0)%4):Nat):Int)))) (.e (iP (((((af (m/(cp.2/2^1))).getD 0 0)%4):Nat):Int)))),
  ar ((t:Int)+40) (by omega),.c (jO ((aU (false,m) (true,((m/(cp.2/2^1))*(cp.2/2^1)))).2) (t+40) ‹_› (by omega))] <| .nil) (by kernel_rfl)
theorem JU(d:Dy)(b t m:Nat)(cp:Bool×Nat)(hd:d.Valid)(ht:t=d.top.toNat)(hb1:16<=b)(hb2:b<=2000)(ht2:t<=2000)(K:Nat)(hK:K<=6000)(zx:m<2^K)(zc:2<=cp.2)(zd:(af cp.2).length<=256)(hPi:ae 328 [iP ((((b+t)+40):Nat):Int)] (.agg [(bP cp.1),(ah (af cp.2))]))(hOf:ae 334 [ag d,iP ((((b+t)+40):Nat):Int)] (.agg [(bP false),(ah (af m))]))(hn:¬0<(af (m/(cp.2/2^1))).length):ae 324 [(ag d),(iP b)] (.aq [(.agg [(bP ((aU (false,m) (true,((m/(cp.2/2^1))*(cp.2/2^1)))).1)),(ah (af ((aU (false,m) (true,((m/(cp.2/2^1))*(cp.2/2^1)))).2/2^(t+40))))]),(iP 0)]):=by
 have ht3:=rH hd;have zX:(af m).length<=256:=ch zx (by omega);have zH:(af (cp.2/2^1)).length<=256:=Nat.le_trans (cJ (Nat.div_le_self _ _)) zd;have nH:(cp.2/2^1)≠0:=by omega
 have mM:((m/(cp.2/2^1))*(cp.2/2^1))<=m:=Nat.div_mul_le_self _ _;have zN:(af (m/(cp.2/2^1))).length<=256:=Nat.le_trans (cJ (Nat.div_le_self _ _)) zX;have zM:(af ((m/(cp.2/2^1))*(cp.2/2^1))).length<=256:=Nat.le_trans (cJ mM) zX;have zA:(af (m+((m/(cp.2/2^1))*(cp.2/2^1)))).length<=256:=ch (k:=K+1) (by have:=Nat.pow_succ 2 K;omega) (by omega)
 have zR:(af (aU (false,m) (true,((m/(cp.2/2^1))*(cp.2/2^1)))).2).length<=256:=Nat.le_trans (cJ (kv _ _)) zA;have zm:(af (m%(cp.2/2^1))).length<=256:=Nat.le_trans (cJ (Nat.mod_le _ _)) zX;have hg:(af (m/(cp.2/2^1))).getD 0 0<4294967296:=tA _ 0;have h4:(af (m/(cp.2/2^1))).getD 0 0%4<=3:=by omega
 exact tr true Tryz.call324 Tryz.func324 (chain [.c (bR _ ‹_›:ae 130 [(ag d)] _),.o 19 (.int (by split<;>omega):PV.le (.e (iP (if 0>(Dy.top d)then 0 else(Dy.top d)))) (.e (iP t))),ar ((b:Int)+(t:Int)) (by omega),
  ar ((((b+t):Nat):Int)+40) (by omega),.c (hPi:ae 328 [(iP ((((b+t)+40):Nat):Int))] _),.c (jO cp.2 1 ‹_› (by omega)),.c (hOf:ae 334 [(ag d),(iP ((((b+t)+40):Nat):Int))] _),
  .c (lp _ _ (by omega) (by omega) ‹_›:ae 296 [(ah (af m)),(ah (af (cp.2/2^1)))] _),
  .c (lq _ _ ‹_› ‹_› ‹_›:ae 181 [(ah (af (m/(cp.2/2^1)))),(ah (af (cp.2/2^1)))] _),
  .c (ic (false,m) ‹_› (true,((m/(cp.2/2^1))*(cp.2/2^1))) ‹_› ‹_›:ae 335 [(.agg [(bP false),(ah (af m))]),(.agg [(bP true),(ah (af ((m/(cp.2/2^1))*(cp.2/2^1))))])] _),
  tF 61 (0<(((af (m/(cp.2/2^1))).length:Nat):Int)) (by omega),ar ((t:Int)+40) (by omega),.c (jO ((aU (false,m) (true,((m/(cp.2/2^1))*(cp.2/2^1)))).2) (t+40) ‹_› (by omega))] <| .nil) (by kernel_rfl)
theorem JS(d:Dy)(b:Nat)(hd:d.Valid)(hb1:16<=b)(hb2:b<=1000)(ht:d.top<=100):∃ (r:Bool×Nat) (k:Nat),r.2<=2^(b+1)/\k<=3/\ae 324 [ag d,iP (b:Int)] (.aq [(.agg [(bP r.1),(ah (af r.2))]),iP (k:Int)]):=by
 obtain⟨t,ht2⟩:∃ t,t=d.top.toNat:=⟨_,rfl⟩
 obtain⟨cp,c1,c2,c3,hPi⟩:=A9 (b+t+40) (by omega) (by omega);have hOf:=vC d hd (b+t+40) 6000 (by omega) (by decide) (by omega);have hlt:=tR (d:=d) (b:=b+t+40) (K:=6000) (by omega);generalize fM d (b+t+40)=x at hOf hlt;have hp:(2:Nat)^(b+t+40+3)=2^(b+t+40)*8:=by rw[Nat.pow_add]
 have zd:(af cp.2).length<=256:=ch (k:=b+t+40+3) (by have:0<2^(b+t+40):=Nat.pow_pos (by decide);omega) (by omega);obtain⟨sg,m⟩:=x;have hle:=QL (x:=(sg,m)) (H:=cp.2/2^1) (b:=b) (t:=t) (by omega) c3;by_cases hn:0<(af (m/(cp.2/2^1))).length
 .cases sg with
  | false=>exact⟨((aU (false,m) (true,m/(cp.2/2^1)*(cp.2/2^1))).1,(aU (false,m) (true,m/(cp.2/2^1)*(cp.2/2^1))).2/2^(t+40)),_,hle,QK _,JW d b t m cp hd ht2 hb1 (by omega) (by omega) 6000 (by decide) hlt c1 zd hPi hOf hn⟩
  | true=>exact⟨((aU (true,m) (false,m/(cp.2/2^1)*(cp.2/2^1))).1,(aU (true,m) (false,m/(cp.2/2^1)*(cp.2/2^1))).2/2^(t+40)),_,hle,QJ _,JV d b t m cp hd ht2 hb1 (by omega) (by omega) 6000 (by decide) hlt c1 zd hPi hOf hn⟩
 .cases sg with
  | false=>exact⟨((aU (false,m) (true,m/(cp.2/2^1)*(cp.2/2^1))).1,(aU (false,m) (true,m/(cp.2/2^1)*(cp.2/2^1))).2/2^(t+40)),_,hle,Nat.zero_le 3,JU d b t m cp hd ht2 hb1 (by omega) (by omega) 6000 (by decide) hlt c1 zd hPi hOf hn⟩
  | true=>exact⟨((aU (true,m) (false,m/(cp.2/2^1)*(cp.2/2^1))).1,(aU (true,m) (false,m/(cp.2/2^1)*(cp.2/2^1))).2/2^(t+40)),_,hle,Nat.zero_le 3,JT d b t m cp hd ht2 hb1 (by omega) (by omega) 6000 (by decide) hlt c1 zd hPi hOf hn⟩
theorem JY(x:Bool×Nat)(b N:Nat)(hx2:x.2<=2^(b+1))(hb:b<=3000)(hN2:N<=b+4)(h0:∀ k,k<N+1->aP x.2 b k≠0)(hN:aP x.2 b (N+1)=0):ae 325 [(.agg [(bP x.1),(ah (af x.2))]),(iP b)] (.aq [(.agg [(bP (((aW x b N).1).1)),(ah (af (((aW x b N).1).2)))]),(.agg [(bP (((aW x b N).2).1)),(ah (af (((aW x b N).2).2)))])]):=by
 have zx:(af x.2).length<=256:=ch (k:=b+2) (by have e:2^(b+2)=2^(b+1)*2:=Nat.pow_succ _ _;have:0<2^(b+1):=Nat.pow_pos (by decide);omega) (by omega);have z0:(af 1).length<=256:=ig (by decide);have z1:(af (1*2^b)).length<=256:=ch (k:=b+1) (by rw[Nat.pow_succ,Nat.one_mul];have:0<2^b:=Nat.pow_pos (by decide);omega) (by omega)
 exact tr true Tryz.call325 Tryz.func325 (chain [.o 10 (.e one_le:PV.le (.e (.sl false 1 1 fun i_ j_=>[(.v (.int .u32 1))].getD (i_*1+j_) (.v (.bool false)))) (.e (ah (af 1)))),.c (mg 1 b ‹_› (by omega) ‹_›),
  .s (Sp.upto (FE x b N) 0 N (by omega) (fun i hi hlti=>by
    have SF:=FJ hx2 hb (k:=i) (by omega);obtain⟨f0,f1,f2,f3,f4,f5,f6,f7⟩:=SF;by_cases h4:2<=(i+1)%4
    .by_cases ho:(i+1)%2=1
     .exact aB (chain [.c (oV ((bB x i),(aP x.2 b i)) ‹_› x ‹_› _ (by omega) ‹_›:ae 332 [(.agg [(bP (bB x i)),(ah (af (aP x.2 b i)))]),(.agg [(bP x.1),(ah (af x.2))]),(iP b)] _),
       .c (kZ (((bB x i) != x.1),((aP x.2 b i)*x.2/2^b)) ‹_› (i+1) (by omega) (by omega):ae 342 [(.agg [(bP ((bB x i) != x.1)),(ah (af ((aP x.2 b i)*x.2/2^b)))]),(iP (((i+1):Nat):Int))] _),
       .c (ku ((bB x (i+1)),(aP x.2 b (i+1))) ‹_›:ae 336 [(.agg [(bP (bB x (i+1))),(ah (af (aP x.2 b (i+1))))])] _),tF 25 ((aP x.2 b (i+1))=0) (h0 (i+1) (by omega)),.a (by omega:0<(4:Int)),
       tT 31 (2<=((((i+1)%4):Nat):Int)) (by omega),.c (jt ((bB x (i+1)),(aP x.2 b (i+1))):ae 326 [(.agg [(bP (bB x (i+1))),(ah (af (aP x.2 b (i+1))))])] _),.a (by omega:0<(2:Int)),
       tB 36 (by rw[ho];rfl:(((((i+1)%2):Nat):Int)==1)=true),
       .c (ic ((aW x b i).1) ‹_› ((!(bB x (i+1))),(aP x.2 b (i+1))) ‹_› ‹_›:ae 335 [(.agg [(bP (((aW x b i).1).1)),(ah (af (((aW x b i).1).2)))]),(.agg [(bP (!(bB x (i+1)))),(ah (af (aP x.2 b (i+1))))])] _),
       ar ((((i+1):Nat):Int)+1) (by omega)] <| .e (chain [.b 5 (.of_eq (by first|rfl|simp[aW,bB,aP,ho,h4]|simp[aW,bB,aP]):Bx.le (.cells 209 [(bP (((aW x b i).2).1)),(ah (af (((aW x b i).2).2)))]) (.cells 209 [(bP (((aW x b (i+1)).2).1)),(ah (af (((aW x b (i+1)).2).2)))])),
  .b 4 (.of_eq (by first|rfl|simp[aW,bB,aP,ho,h4]|simp[aW,bB,aP]):Bx.le (.cells 209 [(bP ((aU ((aW x b i).1) ((!(bB x (i+1))),(aP x.2 b (i+1)))).1)),(ah (af ((aU ((aW x b i).1) ((!(bB x (i+1))),(aP x.2 b (i+1)))).2)))]) (.cells 209 [(bP (((aW x b (i+1)).1).1)),(ah (af (((aW x b (i+1)).1).2)))]))] <| .nil)) (by kernel_rfl)
     .exact aB (chain [.c (oV ((bB x i),(aP x.2 b i)) ‹_› x ‹_› _ (by omega) ‹_›:ae 332 [(.agg [(bP (bB x i)),(ah (af (aP x.2 b i)))]),(.agg [(bP x.1),(ah (af x.2))]),(iP b)] _),
       .c (kZ (((bB x i) != x.1),((aP x.2 b i)*x.2/2^b)) ‹_› (i+1) (by omega) (by omega):ae 342 [(.agg [(bP ((bB x i) != x.1)),(ah (af ((aP x.2 b i)*x.2/2^b)))]),(iP (((i+1):Nat):Int))] _),
       .c (ku ((bB x (i+1)),(aP x.2 b (i+1))) ‹_›:ae 336 [(.agg [(bP (bB x (i+1))),(ah (af (aP x.2 b (i+1))))])] _),tF 25 ((aP x.2 b (i+1))=0) (h0 (i+1) (by omega)),.a (by omega:0<(4:Int)),
       tT 31 (2<=((((i+1)%4):Nat):Int)) (by omega),.c (jt ((bB x (i+1)),(aP x.2 b (i+1))):ae 326 [(.agg [(bP (bB x (i+1))),(ah (af (aP x.2 b (i+1))))])] _),.a (by omega:0<(2:Int)),
       tB 36 (by simp;omega:(((((i+1)%2):Nat):Int)==1)=false),
       .c (ic ((aW x b i).2) ‹_› ((!(bB x (i+1))),(aP x.2 b (i+1))) ‹_› ‹_›:ae 335 [(.agg [(bP (((aW x b i).2).1)),(ah (af (((aW x b i).2).2)))]),(.agg [(bP (!(bB x (i+1)))),(ah (af (aP x.2 b (i+1))))])] _),
       ar ((((i+1):Nat):Int)+1) (by omega)] <| .e (chain [.b 5 (.of_eq (by first|rfl|simp[aW,bB,aP,ho,h4]|simp[aW,bB,aP]):Bx.le (.cells 209 [(bP ((aU ((aW x b i).2) ((!(bB x (i+1))),(aP x.2 b (i+1)))).1)),(ah (af ((aU ((aW x b i).2) ((!(bB x (i+1))),(aP x.2 b (i+1)))).2)))]) (.cells 209 [(bP (((aW x b (i+1)).2).1)),(ah (af (((aW x b (i+1)).2).2)))])),
  .b 4 (.of_eq (by first|rfl|simp[aW,bB,aP,ho,h4]|simp[aW,bB,aP]):Bx.le (.cells 209 [(bP (((aW x b i).1).1)),(ah (af (((aW x b i).1).2)))]) (.cells 209 [(bP (((aW x b (i+1)).1).1)),(ah (af (((aW x b (i+1)).1).2)))]))] <| .nil)) (by kernel_rfl)
    .by_cases ho:(i+1)%2=1
     .exact aB (chain [.c (oV ((bB x i),(aP x.2 b i)) ‹_› x ‹_› _ (by omega) ‹_›:ae 332 [(.agg [(bP (bB x i)),(ah (af (aP x.2 b i)))]),(.agg [(bP x.1),(ah (af x.2))]),(iP b)] _),
       .c (kZ (((bB x i) != x.1),((aP x.2 b i)*x.2/2^b)) ‹_› (i+1) (by omega) (by omega):ae 342 [(.agg [(bP ((bB x i) != x.1)),(ah (af ((aP x.2 b i)*x.2/2^b)))]),(iP (((i+1):Nat):Int))] _),
       .c (ku ((bB x (i+1)),(aP x.2 b (i+1))) ‹_›:ae 336 [(.agg [(bP (bB x (i+1))),(ah (af (aP x.2 b (i+1))))])] _),tF 25 ((aP x.2 b (i+1))=0) (h0 (i+1) (by omega)),.a (by omega:0<(4:Int)),
       tF 31 (2<=((((i+1)%4):Nat):Int)) (by omega),.a (by omega:0<(2:Int)),tB 36 (by rw[ho];rfl:(((((i+1)%2):Nat):Int)==1)=true),
       .c (ic ((aW x b i).1) ‹_› ((bB x (i+1)),(aP x.2 b (i+1))) ‹_› ‹_›:ae 335 [(.agg [(bP (((aW x b i).1).1)),(ah (af (((aW x b i).1).2)))]),(.agg [(bP (bB x (i+1))),(ah (af (aP x.2 b (i+1))))])] _),
       ar ((((i+1):Nat):Int)+1) (by omega)] <| .e (chain [.b 5 (.of_eq (by first|rfl|simp[aW,bB,aP,ho,h4]|simp[aW,bB,aP]):Bx.le (.cells 209 [(bP (((aW x b i).2).1)),(ah (af (((aW x b i).2).2)))]) (.cells 209 [(bP (((aW x b (i+1)).2).1)),(ah (af (((aW x b (i+1)).2).2)))])),
  .b 4 (.of_eq (by first|rfl|simp[aW,bB,aP,ho,h4]|simp[aW,bB,aP]):Bx.le (.cells 209 [(bP ((aU ((aW x b i).1) ((bB x (i+1)),(aP x.2 b (i+1)))).1)),(ah (af ((aU ((aW x b i).1) ((bB x (i+1)),(aP x.2 b (i+1)))).2)))]) (.cells 209 [(bP (((aW x b (i+1)).1).1)),(ah (af (((aW x b (i+1)).1).2)))]))] <| .nil)) (by kernel_rfl)
     .exact aB (chain [.c (oV ((bB x i),(aP x.2 b i)) ‹_› x ‹_› _ (by omega) ‹_›:ae 332 [(.agg [(bP (bB x i)),(ah (af (aP x.2 b i)))]),(.agg [(bP x.1),(ah (af x.2))]),(iP b)] _),
       .c (kZ (((bB x i) != x.1),((aP x.2 b i)*x.2/2^b)) ‹_› (i+1) (by omega) (by omega):ae 342 [(.agg [(bP ((bB x i) != x.1)),(ah (af ((aP x.2 b i)*x.2/2^b)))]),(iP (((i+1):Nat):Int))] _),
       .c (ku ((bB x (i+1)),(aP x.2 b (i+1))) ‹_›:ae 336 [(.agg [(bP (bB x (i+1))),(ah (af (aP x.2 b (i+1))))])] _),tF 25 ((aP x.2 b (i+1))=0) (h0 (i+1) (by omega)),.a (by omega:0<(4:Int)),
       tF 31 (2<=((((i+1)%4):Nat):Int)) (by omega),.a (by omega:0<(2:Int)),tB 36 (by simp;omega:(((((i+1)%2):Nat):Int)==1)=false),
       .c (ic ((aW x b i).2) ‹_› ((bB x (i+1)),(aP x.2 b (i+1))) ‹_› ‹_›:ae 335 [(.agg [(bP (((aW x b i).2).1)),(ah (af (((aW x b i).2).2)))]),(.agg [(bP (bB x (i+1))),(ah (af (aP x.2 b (i+1))))])] _),
       ar ((((i+1):Nat):Int)+1) (by omega)] <| .e (chain [.b 5 (.of_eq (by first|rfl|simp[aW,bB,aP,ho,h4]|simp[aW,bB,aP]):Bx.le (.cells 209 [(bP ((aU ((aW x b i).2) ((bB x (i+1)),(aP x.2 b (i+1)))).1)),(ah (af ((aU ((aW x b i).2) ((bB x (i+1)),(aP x.2 b (i+1)))).2)))]) (.cells 209 [(bP (((aW x b (i+1)).2).1)),(ah (af (((aW x b (i+1)).2).2)))])),
  .b 4 (.of_eq (by first|rfl|simp[aW,bB,aP,ho,h4]|simp[aW,bB,aP]):Bx.le (.cells 209 [(bP (((aW x b i).1).1)),(ah (af (((aW x b i).1).2)))]) (.cells 209 [(bP (((aW x b (i+1)).1).1)),(ah (af (((aW x b (i+1)).1).2)))]))] <| .nil)) (by kernel_rfl))
  (fun hi=>by
    have SF:=FJ hx2 hb (k:=N) (by omega);obtain⟨f0,f1,f2,f3,f4,f5,f6,f7⟩:=SF;exact aB (chain [.c (oV ((bB x N),(aP x.2 b N)) ‹_› x ‹_› _ (by omega) ‹_›:ae 332 [(.agg [(bP (bB x N)),(ah (af (aP x.2 b N)))]),(.agg [(bP x.1),(ah (af x.2))]),(iP b)] _),
    .c (kZ (((bB x N) != x.1),((aP x.2 b N)*x.2/2^b)) ‹_› (N+1) (by omega) (by omega):ae 342 [(.agg [(bP ((bB x N) != x.1)),(ah (af ((aP x.2 b N)*x.2/2^b)))]),(iP (((N+1):Nat):Int))] _),
    .c (ku ((bB x (N+1)),(aP x.2 b (N+1))) ‹_›:ae 336 [(.agg [(bP (bB x (N+1))),(ah (af (aP x.2 b (N+1))))])] _),tB 25 (decide_eq_true hN)] <| .nil) (by kernel_rfl)) (by nofun):bD 6 Tryz.f325 (FE x b N 0) .ret ⟨43,true,[(5,.box 5 0),(4,.box 4 0)],[(5,.cells 209 [(bP (((aW x b N).2).1)),(ah (af (((aW x b N).2).2)))]),(4,.cells 209 [(bP (((aW x b N).1).1)),(ah (af (((aW x b N).1).2)))])]⟩) (chain [.o 8 (.int (by first|rfl|omega|(simp only[Nat.add_mul,Nat.one_mul];omega)):PV.le (.e (iP 1)) (.e (iP (((0+1):Nat):Int)))),
  .b 5 (.of_eq (by first|rfl|simp[aW,bB,aP,ho,h4]|simp[aW,bB,aP]):Bx.le (.cells 209 [(bP false),(ah (af (1*2^b)))]) (.cells 209 [(bP (((aW x b 0).2).1)),(ah (af (((aW x b 0).2).2)))])),
  .b 7 (.of_eq (by first|rfl|simp[aW,bB,aP,ho,h4]|simp[aW,bB,aP]):Bx.le (.cells 209 [(bP false),(ah (af (1*2^b)))]) (.cells 209 [(bP (bB x 0)),(ah (af (aP x.2 b 0)))])),
  .b 4 (Mm:Bx.le (.cells 209 [(bP false),(.v (.slice none 0 0))]) (.cells 209 [(bP (((aW x b 0).1).1)),(ah (af (((aW x b 0).1).2)))]))] <| .nil)] <| .nil) (by kernel_rfl)
theorem JZ(x:Bool×Nat)(b:Nat)(hx2:x.2<=2^(b+1))(hb:b<=3000):∃ s c:Bool×Nat,s.2<2^(b+14)/\c.2<2^(b+14)/\ae 325 [(.agg [(bP x.1),(ah (af x.2))]),iP (b:Int)] (.aq [(.agg [(bP s.1),(ah (af s.2))]),(.agg [(bP c.1),(ah (af c.2))])]):=by
 obtain⟨N,n1,n2,n3,n4⟩:=Mo hx2;obtain⟨M,rfl⟩:∃ M,N=M+1:=⟨N-1,by omega⟩
 obtain⟨a1,a2⟩:=FL hx2 hb (k:=M) (by omega);exact⟨_,_,a1,a2,JY x b M hx2 hb (by omega) n3 n4⟩
open Go.RowKit Fp Pu
theorem mh(a:Bool×Nat)(b p:Nat)(ha:a.2<2^3000)(hb:b<=8000)(hp1:8<=p)(hp2:p<=512):ae 327 [(.agg [(bP a.1),(ah (af a.2))]),(iP b),(iP p)] (ai (gU a b p)):=by
 have z1:(af 1).length<=256:=ig (by decide);have z2:(af (1*2^24)).length<=256:=ig (by decide);have z3:(af a.2).length<=256:=ch ha (by decide);have hs:=ua (n:=3000) ha (show 1*2^24<2^25 by decide) (by decide) (by decide);have z4:(af (a.2+1*2^24)).length<=256:=ch hs (by decide);have l1:=Nat.lt_of_le_of_lt (show(aU a ((!false),(1*2^24))).2<=_ from kv _ _) hs
 have l2:=Nat.lt_of_le_of_lt (show(aU a (false,(1*2^24))).2<=_ from kv _ _) hs;have z5:(af (aU a ((!false),(1*2^24))).2).length<=256:=ch l1 (by decide);have z6:(af (aU a (false,(1*2^24))).2).length<=256:=ch l2 (by decide);have e3:(0-(b:Int)) = -(b:Int):=Int.zero_sub _
 have r1:cY (canon (aU a ((!false),(1*2^24))).1 (aU a ((!false),(1*2^24))).2 (0-(b:Int))):=by rw[e3];exact DF (q8 (k:=4000) l1 (by decide)) hb
 have r2:cY (canon (aU a (false,(1*2^24))).1 (aU a (false,(1*2^24))).2 (0-(b:Int))):=by rw[e3];exact DF (q8 (k:=4000) l2 (by decide)) hb
 have v1:(canon (aU a ((!false),(1*2^24))).1 (aU a ((!false),(1*2^24))).2 (0-(b:Int))).Valid:=DG r1;have v2:(canon (aU a (false,(1*2^24))).1 (aU a (false,(1*2^24))).2 (0-(b:Int))).Valid:=DG r2
 have hN:gU a b p=ck (bq (canon (aU a ((!false),(1*2^24))).1 (aU a ((!false),(1*2^24))).2 (0-(b:Int))) p false) (bg (canon (aU a ((!false),(1*2^24))).1 (aU a ((!false),(1*2^24))).2 (0-(b:Int))) p false) (bq (canon (aU a (false,(1*2^24))).1 (aU a (false,(1*2^24))).2 (0-(b:Int))) p true) (bg (canon (aU a (false,(1*2^24))).1 (aU a (false,(1*2^24))).2 (0-(b:Int))) p true):=by rw[e3];rfl
 exact tr true Tryz.call327 Tryz.func327 (chain [.o 14 (.e one_le:PV.le (.e (.sl false 1 1 fun i_ j_=>[(.v (.int .u32 1))].getD (i_*1+j_) (.v (.bool false)))) (.e (ah (af 1)))),.c (mg 1 24 ‹_› (by omega) ‹_›),
  .c (jt (false,(1*2^24)):ae 326 [(.agg [(bP false),(ah (af (1*2^24)))])] _),
  .c (ic a ‹_› ((!false),(1*2^24)) ‹_› ‹_›:ae 335 [(.agg [(bP a.1),(ah (af a.2))]),(.agg [(bP (!false)),(ah (af (1*2^24)))])] _),
  .c (ic a ‹_› (false,(1*2^24)) ‹_› ‹_›:ae 335 [(.agg [(bP a.1),(ah (af a.2))]),(.agg [(bP false),(ah (af (1*2^24)))])] _),ar (0-(b:Int)) (by omega),
  .c (nk _ _ _ ‹_› (by omega) (by omega) ‹_›:ae 262 [(bP ((aU a ((!false),(1*2^24))).1)),(ah (af ((aU a ((!false),(1*2^24))).2))),(iP (0-(b:Int)))] _),
  ar (0-(b:Int)) (by omega),
  .c (nk _ _ _ ‹_› (by omega) (by omega) ‹_›:ae 262 [(bP ((aU a (false,(1*2^24))).1)),(ah (af ((aU a (false,(1*2^24))).2))),(iP (0-(b:Int)))] _),
  tB 45 (by decide:((0:Int) != 0)=false),tB 48 (by decide:((0:Int) != 0)=false),
  .c (ss (canon ((aU a (!false,(1*2^24))).1) ((aU a (!false,(1*2^24))).2) (0-(b:Int))) p ‹_› (by omega) (by omega)),
  .c (su (canon ((aU a (false,(1*2^24))).1) ((aU a (false,(1*2^24))).2) (0-(b:Int))) p ‹_› (by omega) (by omega))] <| .w ((bg (canon ((aU a ((!false),(1*2^24))).1) ((aU a ((!false),(1*2^24))).2) (0-(b:Int))) p false)=0)
  (fun k1=>chain [tB 64 (bne_eq_false_iff_eq.2 k1)] <| .w ((bg (canon ((aU a (false,(1*2^24))).1) ((aU a (false,(1*2^24))).2) (0-(b:Int))) p true)=0)
   (fun k2=>chain [tB 67 (bne_eq_false_iff_eq.2 k2)]<|rQ (ai (Iv.mk (bq (canon ((aU a ((!false),(1*2^24))).1) ((aU a ((!false),(1*2^24))).2) (0-(b:Int))) p false) (bq (canon ((aU a (false,(1*2^24))).1) ((aU a (false,(1*2^24))).2) (0-(b:Int))) p true) false)) (ai (gU a b p)) (by rw[hN,OL k1 k2]))
   (fun k2=>chain [tB 67 (bne_iff_ne.2 k2),.c du]<|rQ (ai aj) (ai (gU a b p)) (by rw[hN,Dw (.inr k2)])))
  (fun k1=>chain [tB 64 (bne_iff_ne.2 k1),.c du]<|rQ (ai aj) (ai (gU a b p)) (by rw[hN,Dw (.inl k1)]))) (by kernel_rfl)
theorem JQ(d:Dy)(p:Nat)(hd:d.Valid)(h0:d.sign=0)(hp1:8<=p)(hp2:p<=512):ae 315 [(ag d),(bP true),(iP p)] (ai (aN 1)):=by
 have hv:=dD (n:=1) (by decide);exact tr true Tryz.call315 Tryz.func315 (chain [.c (dJ _ ‹_›:ae 35 [(ag d)] _),tB 14 (by rw[h0];rfl:((Dy.sign d)==0)=true),.c (dB _ (by omega):ae 113 [(iP 1)] _),.c (o9 (az 1) ‹_›)] <| .nil) (by kernel_rfl)
theorem JI(d:Dy)(p:Nat)(r s c:Bool×Nat)(hd:d.Valid)(h0:d.sign≠0)(hRed:ae 324 [ag d,iP (((p+64):Nat):Int)] (.aq [(.agg [(bP r.1),(ah (af r.2))]),(iP 0)]))(hSer:ae 325 [(.agg [(bP r.1),(ah (af r.2))]),iP (((p+64):Nat):Int)] (.aq [(.agg [(bP s.1),(ah (af s.2))]),(.agg [(bP c.1),(ah (af c.2))])]))(zs:s.2<2^3000)(zc:c.2<2^3000)(hp1:8<=p)(hp2:p<=512):ae 315 [(ag d),(bP true),(iP p)] (ai (gU c (p+64) p)):=by
 have zk:c.2<2^3000:=zc;exact tr true Tryz.call315 Tryz.func315 (chain [.c (dJ _ ‹_›:ae 35 [(ag d)] _),tB 14 (by simpa using h0:((Dy.sign d)==0)=false),ar ((p:Int)+64) (by omega),.c (hRed:ae 324 [(ag d),(iP (((p+64):Nat):Int))] _),
  .c (hSer:ae 325 [(.agg [(bP r.1),(ah (af r.2))]),(iP (((p+64):Nat):Int))] _),ar (0+1) (by omega),.a (by omega:0<(4:Int)),.o 38 (.int (by decide):PV.le (.e (iP (Int.tmod (0+1) 4))) (.e (iP 1))),
  tB 40 (by decide:((1:Int)==1)=true),.c (mh c _ _ ‹_› (by omega) (by omega) (by omega):ae 327 [(.agg [(bP c.1),(ah (af c.2))]),(iP (((p+64):Nat):Int)),(iP p)] _)] <| .nil) (by kernel_rfl)
theorem JJ(d:Dy)(p:Nat)(r s c:Bool×Nat)(hd:d.Valid)(h0:d.sign≠0)(hRed:ae 324 [ag d,iP (((p+64):Nat):Int)] (.aq [(.agg [(bP r.1),(ah (af r.2))]),(iP 1)]))(hSer:ae 325 [(.agg [(bP r.1),(ah (af r.2))]),iP (((p+64):Nat):Int)] (.aq [(.agg [(bP s.1),(ah (af s.2))]),(.agg [(bP c.1),(ah (af c.2))])]))(zs:s.2<2^3000)(zc:c.2<2^3000)(hp1:8<=p)(hp2:p<=512):ae 315 [(ag d),(bP true),(iP p)] (ai (gU ((!s.1),s.2) (p+64) p)):=by
 have zk:((!s.1),s.2).2<2^3000:=zs;exact tr true Tryz.call315 Tryz.func315 (chain [.c (dJ _ ‹_›:ae 35 [(ag d)] _),tB 14 (by simpa using h0:((Dy.sign d)==0)=false),ar ((p:Int)+64) (by omega),.c (hRed:ae 324 [(ag d),(iP (((p+64):Nat):Int))] _),
  .c (hSer:ae 325 [(.agg [(bP r.1),(ah (af r.2))]),(iP (((p+64):Nat):Int))] _),ar (1+1) (by omega),.a (by omega:0<(4:Int)),.o 38 (.int (by decide):PV.le (.e (iP (Int.tmod (1+1) 4))) (.e (iP 2))),
  tB 40 (by decide:((2:Int)==1)=false),tB 43 (by decide:((2:Int)==2)=true),.c (jt (s.1,s.2):ae 326 [(.agg [(bP s.1),(ah (af s.2))])] _),
  .c (mh ((!s.1),s.2) _ _ ‹_› (by omega) (by omega) (by omega):ae 327 [(.agg [(bP (!s.1)),(ah (af s.2))]),(iP (((p+64):Nat):Int)),(iP p)] _)] <| .nil) (by kernel_rfl)
theorem JK(d:Dy)(p:Nat)(r s c:Bool×Nat)(hd:d.Valid)(h0:d.sign≠0)(hRed:ae 324 [ag d,iP (((p+64):Nat):Int)] (.aq [(.agg [(bP r.1),(ah (af r.2))]),(iP 2)]))(hSer:ae 325 [(.agg [(bP r.1),(ah (af r.2))]),iP (((p+64):Nat):Int)] (.aq [(.agg [(bP s.1),(ah (af s.2))]),(.agg [(bP c.1),(ah (af c.2))])]))(zs:s.2<2^3000)(zc:c.2<2^3000)(hp1:8<=p)(hp2:p<=512):ae 315 [(ag d),(bP true),(iP p)] (ai (gU ((!c.1),c.2) (p+64) p)):=by
 have zk:((!c.1),c.2).2<2^3000:=zc;exact tr true Tryz.call315 Tryz.func315 (chain [.c (dJ _ ‹_›:ae 35 [(ag d)] _),tB 14 (by simpa using h0:((Dy.sign d)==0)=false),ar ((p:Int)+64) (by omega),.c (hRed:ae 324 [(ag d),(iP (((p+64):Nat):Int))] _),
  .c (hSer:ae 325 [(.agg [(bP r.1),(ah (af r.2))]),(iP (((p+64):Nat):Int))] _),ar (2+1) (by omega),.a (by omega:0<(4:Int)),.o 38 (.int (by decide):PV.le (.e (iP (Int.tmod (2+1) 4))) (.e (iP 3))),
  tB 40 (by decide:((3:Int)==1)=false),tB 43 (by decide:((3:Int)==2)=false),tB 47 (by decide:((3:Int)==3)=true),.c (jt (c.1,c.2):ae 326 [(.agg [(bP c.1),(ah (af c.2))])] _),
  .c (mh ((!c.1),c.2) _ _ ‹_› (by omega) (by omega) (by omega):ae 327 [(.agg [(bP (!c.1)),(ah (af c.2))]),(iP (((p+64):Nat):Int)),(iP p)] _)] <| .nil) (by kernel_rfl)
theorem JL(d:Dy)(p:Nat)(r s c:Bool×Nat)(hd:d.Valid)(h0:d.sign≠0)(hRed:ae 324 [ag d,iP (((p+64):Nat):Int)] (.aq [(.agg [(bP r.1),(ah (af r.2))]),(iP 3)]))(hSer:ae 325 [(.agg [(bP r.1),(ah (af r.2))]),iP (((p+64):Nat):Int)] (.aq [(.agg [(bP s.1),(ah (af s.2))]),(.agg [(bP c.1),(ah (af c.2))])]))(zs:s.2<2^3000)(zc:c.2<2^3000)(hp1:8<=p)(hp2:p<=512):ae 315 [(ag d),(bP true),(iP p)] (ai (gU s (p+64) p)):=by
 have zk:s.2<2^3000:=zs;exact tr true Tryz.call315 Tryz.func315 (chain [.c (dJ _ ‹_›:ae 35 [(ag d)] _),tB 14 (by simpa using h0:((Dy.sign d)==0)=false),ar ((p:Int)+64) (by omega),.c (hRed:ae 324 [(ag d),(iP (((p+64):Nat):Int))] _),
  .c (hSer:ae 325 [(.agg [(bP r.1),(ah (af r.2))]),(iP (((p+64):Nat):Int))] _),ar (3+1) (by omega),.a (by omega:0<(4:Int)),.o 38 (.int (by decide):PV.le (.e (iP (Int.tmod (3+1) 4))) (.e (iP 0))),
  tB 40 (by decide:((0:Int)==1)=false),tB 43 (by decide:((0:Int)==2)=false),tB 47 (by decide:((0:Int)==3)=false),
  .c (mh s _ _ ‹_› (by omega) (by omega) (by omega):ae 327 [(.agg [(bP s.1),(ah (af s.2))]),(iP (((p+64):Nat):Int)),(iP p)] _)] <| .nil) (by kernel_rfl)
theorem JR(d:Dy)(p:Nat)(hd:d.Valid)(h0:d.sign=0)(hp1:8<=p)(hp2:p<=512):ae 315 [(ag d),(bP false),(iP p)] (ai (cF d)):=by
 exact tr true Tryz.call315 Tryz.func315 (chain [.c (dJ _ ‹_›:ae 35 [(ag d)] _),tB 14 (by rw[h0];rfl:((Dy.sign d)==0)=true),.c (o9 d ‹_›)] <| .nil) (by kernel_rfl)
theorem JM(d:Dy)(p:Nat)(r s c:Bool×Nat)(hd:d.Valid)(h0:d.sign≠0)(hRed:ae 324 [ag d,iP (((p+64):Nat):Int)] (.aq [(.agg [(bP r.1),(ah (af r.2))]),(iP 0)]))(hSer:ae 325 [(.agg [(bP r.1),(ah (af r.2))]),iP (((p+64):Nat):Int)] (.aq [(.agg [(bP s.1),(ah (af s.2))]),(.agg [(bP c.1),(ah (af c.2))])]))(zs:s.2<2^3000)(zc:c.2<2^3000)(hp1:8<=p)(hp2:p<=512):ae 315 [(ag d),(bP false),(iP p)] (ai (gU s (p+64) p)):=by
 have zk:s.2<2^3000:=zs;exact tr true Tryz.call315 Tryz.func315 (chain [.c (dJ _ ‹_›:ae 35 [(ag d)] _),tB 14 (by simpa using h0:((Dy.sign d)==0)=false),ar ((p:Int)+64) (by omega),.c (hRed:ae 324 [(ag d),(iP (((p+64):Nat):Int))] _),
  .c (hSer:ae 325 [(.agg [(bP r.1),(ah (af r.2))]),(iP (((p+64):Nat):Int))] _),.a (by omega:0<(4:Int)),.o 38 (.int (by decide):PV.le (.e (iP (Int.tmod 0 4))) (.e (iP 0))),
  tB 40 (by decide:((0:Int)==1)=false),tB 43 (by decide:((0:Int)==2)=false),tB 47 (by decide:((0:Int)==3)=false),
  .c (mh s _ _ ‹_› (by omega) (by omega) (by omega):ae 327 [(.agg [(bP s.1),(ah (af s.2))]),(iP (((p+64):Nat):Int)),(iP p)] _)] <| .nil) (by kernel_rfl)
theorem JN(d:Dy)(p:Nat)(r s c:Bool×Nat)(hd:d.Valid)(h0:d.sign≠0)(hRed:ae 324 [ag d,iP (((p+64):Nat):Int)] (.aq [(.agg [(bP r.1),(ah (af r.2))]),(iP 1)]))(hSer:ae 325 [(.agg [(bP r.1),(ah (af r.2))]),iP (((p+64):Nat):Int)] (.aq [(.agg [(bP s.1),(ah (af s.2))]),(.agg [(bP c.1),(ah (af c.2))])]))(zs:s.2<2^3000)(zc:c.2<2^3000)(hp1:8<=p)(hp2:p<=512):ae 315 [(ag d),(bP false),(iP p)] (ai (gU c (p+64) p)):=by
 have zk:c.2<2^3000:=zc;exact tr true Tryz.call315 Tryz.func315 (chain [.c (dJ _ ‹_›:ae 35 [(ag d)] _),tB 14 (by simpa using h0:((Dy.sign d)==0)=false),ar ((p:Int)+64) (by omega),.c (hRed:ae 324 [(ag d),(iP (((p+64):Nat):Int))] _),
  .c (hSer:ae 325 [(.agg [(bP r.1),(ah (af r.2))]),(iP (((p+64):Nat):Int))] _),.a (by omega:0<(4:Int)),.o 38 (.int (by decide):PV.le (.e (iP (Int.tmod 1 4))) (.e (iP 1))),tB 40 (by decide:((1:Int)==1)=true),
  .c (mh c _ _ ‹_› (by omega) (by omega) (by omega):ae 327 [(.agg [(bP c.1),(ah (af c.2))]),(iP (((p+64):Nat):Int)),(iP p)] _)] <| .nil) (by kernel_rfl)
theorem JO(d:Dy)(p:Nat)(r s c:Bool×Nat)(hd:d.Valid)(h0:d.sign≠0)(hRed:ae 324 [ag d,iP (((p+64):Nat):Int)] (.aq [(.agg [(bP r.1),(ah (af r.2))]),(iP 2)]))(hSer:ae 325 [(.agg [(bP r.1),(ah (af r.2))]),iP (((p+64):Nat):Int)] (.aq [(.agg [(bP s.1),(ah (af s.2))]),(.agg [(bP c.1),(ah (af c.2))])]))(zs:s.2<2^3000)(zc:c.2<2^3000)(hp1:8<=p)(hp2:p<=512):ae 315 [(ag d),(bP false),(iP p)] (ai (gU ((!s.1),s.2) (p+64) p)):=by
 have zk:((!s.1),s.2).2<2^3000:=zs;exact tr true Tryz.call315 Tryz.func315 (chain [.c (dJ _ ‹_›:ae 35 [(ag d)] _),tB 14 (by simpa using h0:((Dy.sign d)==0)=false),ar ((p:Int)+64) (by omega),.c (hRed:ae 324 [(ag d),(iP (((p+64):Nat):Int))] _),
  .c (hSer:ae 325 [(.agg [(bP r.1),(ah (af r.2))]),(iP (((p+64):Nat):Int))] _),.a (by omega:0<(4:Int)),.o 38 (.int (by decide):PV.le (.e (iP (Int.tmod 2 4))) (.e (iP 2))),
  tB 40 (by decide:((2:Int)==1)=false),tB 43 (by decide:((2:Int)==2)=true),.c (jt (s.1,s.2):ae 326 [(.agg [(bP s.1),(ah (af s.2))])] _),
  .c (mh ((!s.1),s.2) _ _ ‹_› (by omega) (by omega) (by omega):ae 327 [(.agg [(bP (!s.1)),(ah (af s.2))]),(iP (((p+64):Nat):Int)),(iP p)] _)] <| .nil) (by kernel_rfl)
theorem JP(d:Dy)(p:Nat)(r s c:Bool×Nat)(hd:d.Valid)(h0:d.sign≠0)(hRed:ae 324 [ag d,iP (((p+64):Nat):Int)] (.aq [(.agg [(bP r.1),(ah (af r.2))]),(iP 3)]))(hSer:ae 325 [(.agg [(bP r.1),(ah (af r.2))]),iP (((p+64):Nat):Int)] (.aq [(.agg [(bP s.1),(ah (af s.2))]),(.agg [(bP c.1),(ah (af c.2))])]))(zs:s.2<2^3000)(zc:c.2<2^3000)(hp1:8<=p)(hp2:p<=512):ae 315 [(ag d),(bP false),(iP p)] (ai (gU ((!c.1),c.2) (p+64) p)):=by
 have zk:((!c.1),c.2).2<2^3000:=zc;exact tr true Tryz.call315 Tryz.func315 (chain [.c (dJ _ ‹_›:ae 35 [(ag d)] _),tB 14 (by simpa using h0:((Dy.sign d)==0)=false),ar ((p:Int)+64) (by omega),.c (hRed:ae 324 [(ag d),(iP (((p+64):Nat):Int))] _),
  .c (hSer:ae 325 [(.agg [(bP r.1),(ah (af r.2))]),(iP (((p+64):Nat):Int))] _),.a (by omega:0<(4:Int)),.o 38 (.int (by decide):PV.le (.e (iP (Int.tmod 3 4))) (.e (iP 3))),
  tB 40 (by decide:((3:Int)==1)=false),tB 43 (by decide:((3:Int)==2)=false),tB 47 (by decide:((3:Int)==3)=true),.c (jt (c.1,c.2):ae 326 [(.agg [(bP c.1),(ah (af c.2))])] _),
  .c (mh ((!c.1),c.2) _ _ ‹_› (by omega) (by omega) (by omega):ae 327 [(.agg [(bP (!c.1)),(ah (af c.2))]),(iP (((p+64):Nat):Int)),(iP p)] _)] <| .nil) (by kernel_rfl)
theorem Ba{d:Dy}(hd:d.Valid)(ht:d.top<=100)(cs:Bool){p:Nat}(hp1:8<=p)(hp2:p<=512):∃ Z,Z.Valid/\ae 315 [ag d,bP cs,iP (p:Int)] (ai Z):=by
 by_cases h0:d.sign=0
 .cases cs with
  | true=>exact⟨_,jC (by decide),JQ d p hd h0 hp1 hp2⟩
  | false=>exact⟨_,jF hd,JR d p hd h0 hp1 hp2⟩
 .obtain ⟨r,k,hr,hk,hRed⟩:=JS d (p+64) hd (by omega) (by omega) ht
  obtain⟨s,c,zs,zc,hSer⟩:=JZ r (p+64) hr (by omega);have zs:=q8 zs (k:=3000) (by omega);have zc:=q8 zc (k:=3000) (by omega);have hv:∀ a:Bool×Nat,(gU a (p+64) p).Valid:=fun a=>Pf a _ (by omega) (by omega)
  rcases(show k=0\/k=1\/k=2\/k=3 by omega)with rfl|rfl|rfl|rfl
  .cases cs with
   | true=>exact⟨_,hv _,JI d p r s c hd h0 hRed hSer zs zc hp1 hp2⟩
   | false=>exact⟨_,hv _,JM d p r s c hd h0 hRed hSer zs zc hp1 hp2⟩
  .cases cs with
   | true=>exact⟨_,hv _,JJ d p r s c hd h0 hRed hSer zs zc hp1 hp2⟩
   | false=>exact⟨_,hv _,JN d p r s c hd h0 hRed hSer zs zc hp1 hp2⟩
  .cases cs with
   | true=>exact⟨_,hv _,JK d p r s c hd h0 hRed hSer zs zc hp1 hp2⟩
   | false=>exact⟨_,hv _,JO d p r s c hd h0 hRed hSer zs zc hp1 hp2⟩
  .cases cs with
   | true=>exact⟨_,hv _,JL d p r s c hd h0 hRed hSer zs zc hp1 hp2⟩
   | false=>exact⟨_,hv _,JP d p r s c hd h0 hRed hSer zs zc hp1 hp2⟩
open Go.RowKit Fp Pu
theorem NC:(az (-1)).neg=true/\(az (-1)).m=1/\(az (-1)).e=0:=by decide +kernel
theorem J1  : ae 331 [(iP (-1))] (.agg [(bP true),(ah (af 1))]):=by
 obtain⟨q1,q2,q3⟩:=NC;have z1:(af (az (-1)).m).length<=256:=by rw[q2];exact ig (by decide)
 have z2:(af ((az (-1)).m*2^(Int.toNat (az (-1)).e))).length<=256:=by rw[q2,q3];exact ig (by decide)
 exact tr true Tryz.call331 Tryz.func331 (chain [.c (dB _ (by omega):ae 113 [(iP (-1))] _),.c (vz _ _ ‹_› (by omega) (by omega) ‹_›:ae 329 [(ah (af ((az (-1)).m))),(iP ((az (-1)).e))] _)]<|rQ (.agg [(bP ((az (-1)).neg)),(ah (af (((az (-1)).m)*2^(Int.toNat ((az (-1)).e)))))]) (.agg [(bP true),(ah (af 1))]) (by rw[q1,q2,q3];rfl)) (by kernel_rfl)
theorem JA(a c:Bool×Nat)(za:(af a.2).length<=256)(zc:(af c.2).length<=256)(c0:c.2≠0)(zs:(af (a.2/c.2+1)).length<=256)(h1:a.1=false):ae 333 [(.agg [(bP a.1),(ah (af a.2))]),(.agg [(bP c.1),(ah (af c.2))])] (.agg [(bP ((eF a c).1)),(ah (af ((eF a c).2)))]):=by
 have zq:(af (a.2/c.2)).length<=256:=Nat.le_trans (cJ (Nat.div_le_self _ _)) za;have zr:(af (a.2%c.2)).length<=256:=Nat.le_trans (cJ (Nat.mod_le _ _)) za;have z1:(af 1).length<=256:=ig (by decide);have e:eF a c=(a.1,a.2/c.2):=by unfold eF;rw[if_neg (by rw[h1];exact fun q=>Bool.noConfusion q.1)]
 exact tr true Tryz.call333 Tryz.func333 (chain [.c (lp _ _ (by omega) (by omega) ‹_›:ae 296 [(ah (af a.2)),(ah (af c.2))] _),tB 19 (h1:a.1=false),tB 23 (h1:a.1=false)]<|rQ (.agg [(bP false),(ah (af (a.2/c.2)))]) (.agg [(bP ((eF a c).1)),(ah (af ((eF a c).2)))]) (by rw[e,h1])) (by kernel_rfl)
theorem Jx(a c:Bool×Nat)(za:(af a.2).length<=256)(zc:(af c.2).length<=256)(c0:c.2≠0)(zs:(af (a.2/c.2+1)).length<=256)(h1:a.1=true)(h2:a.2%c.2=0):ae 333 [(.agg [(bP a.1),(ah (af a.2))]),(.agg [(bP c.1),(ah (af c.2))])] (.agg [(bP ((eF a c).1)),(ah (af ((eF a c).2)))]):=by
 have zq:(af (a.2/c.2)).length<=256:=Nat.le_trans (cJ (Nat.div_le_self _ _)) za;have zr:(af (a.2%c.2)).length<=256:=Nat.le_trans (cJ (Nat.mod_le _ _)) za;have z1:(af 1).length<=256:=ig (by decide);have e:eF a c=(a.1,a.2/c.2):=by unfold eF;rw[if_neg (fun q=>q.2 h2)]
 exact tr true Tryz.call333 Tryz.func333 (chain [.c (lp _ _ (by omega) (by omega) ‹_›:ae 296 [(ah (af a.2)),(ah (af c.2))] _),tB 19 (h1:a.1=true),tB 23 (h1:a.1=true),.c (gT _ (by omega):ae 194 [(ah (af (a.2%c.2)))] _),
  tF 27 (0<((ak (a.2%c.2):Nat):Int)) (by rw[h2,gQ];decide)]<|rQ (.agg [(bP true),(ah (af (a.2/c.2)))]) (.agg [(bP ((eF a c).1)),(ah (af ((eF a c).2)))]) (by rw[e,h1])) (by kernel_rfl)
theorem Jy(a c:Bool×Nat)(za:(af a.2).length<=256)(zc:(af c.2).length<=256)(c0:c.2≠0)(zs:(af (a.2/c.2+1)).length<=256)(h1:a.1=true)(h2:a.2%c.2≠0):ae 333 [(.agg [(bP a.1),(ah (af a.2))]),(.agg [(bP c.1),(ah (af c.2))])] (.agg [(bP ((eF a c).1)),(ah (af ((eF a c).2)))]):=by
 have zq:(af (a.2/c.2)).length<=256:=Nat.le_trans (cJ (Nat.div_le_self _ _)) za;have zr:(af (a.2%c.2)).length<=256:=Nat.le_trans (cJ (Nat.mod_le _ _)) za;have z1:(af 1).length<=256:=ig (by decide);have e:eF a c=aU (a.1,a.2/c.2) (true,1):=by unfold eF;rw[if_pos ⟨h1,h2⟩]
 exact tr true Tryz.call333 Tryz.func333 (chain [.c (lp _ _ (by omega) (by omega) ‹_›:ae 296 [(ah (af a.2)),(ah (af c.2))] _),tB 19 (h1:a.1=true),tB 23 (h1:a.1=true),.c (gT _ (by omega):ae 194 [(ah (af (a.2%c.2)))] _),
  tT 27 (0<((ak (a.2%c.2):Nat):Int)) (by have:=dX h2;omega),.c J1,
  .c (ic (true,(a.2/c.2)) ‹_› (true,1) ‹_› ‹_›:ae 335 [(.agg [(bP true),(ah (af (a.2/c.2)))]),(.agg [(bP true),(ah (af 1))])] _)]<|rQ (.agg [(bP ((aU (true,(a.2/c.2)) (true,1)).1)),(ah (af ((aU (true,(a.2/c.2)) (true,1)).2)))]) (.agg [(bP ((eF a c).1)),(ah (af ((eF a c).2)))]) (by rw[e,h1])) (by kernel_rfl)
theorem Jz(a c:Bool×Nat)(za:(af a.2).length<=256)(zc:(af c.2).length<=256)(c0:c.2≠0)(zs:(af (a.2/c.2+1)).length<=256):ae 333 [(.agg [(bP a.1),(ah (af a.2))]),(.agg [(bP c.1),(ah (af c.2))])] (.agg [(bP ((eF a c).1)),(ah (af ((eF a c).2)))]):=by
 cases h1:a.1 with
 | false=>rw[<-h1];exact JA a c za zc c0 zs h1
 | true =>
  rw[<-h1];by_cases h2:a.2%c.2=0
  .exact Jx a c za zc c0 zs h1 h2
  .exact Jy a c za zc c0 zs h1 h2
theorem JE(x:Iv)(n p t w2 sg eg mm:Nat)(cp u v c1 a0 a1 k l0 d0 d1:Bool×Nat)(hx:x.Valid)(xa:x.all=false)(hn:n<=3)(hp2:p<=2000)(ht:(t:Int)=max (max x.lo.top x.hi.top) 0)(t2:t<=2000)(zd:(af d1.2).length<=256)(hPi:ae 328 [iP ((((p+t)+40):Nat):Int)] (.agg [(bP cp.1),(ah (af cp.2))]))(hU:ae 334 [ag x.hi,iP ((((p+t)+40):Nat):Int)] (.agg [(bP u.1),(ah (af u.2))]))(hV:ae 334 [ag x.lo,iP ((((p+t)+40):Nat):Int)] (.agg [(bP v.1),(ah (af v.2))]))(hW:ae 329 [(ah (af cp.2)),iP ((1:Nat):Int)] (ah (af w2)))(hC1:ae 332 [(.agg [(bP false),(ah (af n))]),(.agg [(bP cp.1),(ah (af cp.2))]),iP ((0:Nat):Int)] (.agg [(bP c1.1),(ah (af c1.2))]))(hS:ae 330 [(ah (af c1.2)),iP ((1:Nat):Int)] (ah (af sg)))(hE:ae 329 [(ah (af 1)),iP ((((t+24)+4):Nat):Int)] (ah (af eg)))(hA0:ae 335 [(.agg [(bP u.1),(ah (af u.2))]),(.agg [(bP (!false)),(ah (af sg))])] (.agg [(bP a0.1),(ah (af a0.2))]))(hA1:ae 335 [(.agg [(bP a0.1),(ah (af a0.2))]),(.agg [(bP false),(ah (af eg))])] (.agg [(bP a1.1),(ah (af a1.2))]))(hK:ae 333 [(.agg [(bP a1.1),(ah (af a1.2))]),(.agg [(bP false),(ah (af w2))])] (.agg [(bP k.1),(ah (af k.2))]))(hM:ae 181 [(ah (af k.2)),(ah (af w2))] (.aq [(ah (af mm)),(iP 0)]))(hL0:ae 335 [(.agg [(bP k.1),(ah (af mm))]),(.agg [(bP false),(ah (af sg))])] (.agg [(bP l0.1),(ah (af l0.2))]))(hD0:ae 335 [(.agg [(bP l0.1),(ah (af l0.2))]),(.agg [(bP (!v.1)),(ah (af v.2))])] (.agg [(bP d0.1),(ah (af d0.2))]))(hD1:ae 335 [(.agg [(bP d0.1),(ah (af d0.2))]),(.agg [(bP false),(ah (af eg))])] (.agg [(bP d1.1),(ah (af d1.2))]))(hz:d1.2=0):ae 316 [(ai x),(iP n),(iP p)] (bP true):=by
 obtain⟨w1,w2'⟩:=hx.ends;have z1:(af 1).length<=256:=ig (by decide);exact tr true Tryz.call316 Tryz.func316 (chain [.c (bR _ ‹_›:ae 130 [(ag x.lo)] _),.c (bR _ ‹_›:ae 130 [(ag x.hi)] _),
  .o 24 (.int (by(repeat' split)<;>omega):PV.le (.e (iP (if 0>(if(Dy.top x.hi)>(Dy.top x.lo)then(Dy.top x.hi)else(Dy.top x.lo))then 0 else(if(Dy.top x.hi)>(Dy.top x.lo)then(Dy.top x.hi)else(Dy.top x.lo))))) (.e (iP t))),
  ar ((p:Int)+(t:Int)) (by omega),ar ((((p+t):Nat):Int)+40) (by omega),.c (hPi:ae 328 [(iP ((((p+t)+40):Nat):Int))] _),.c (hW:ae 329 [(ah (af cp.2)),(iP 1)] _),
  .c (vE n (by omega)),.c (hC1:ae 332 [(.agg [(bP false),(ah (af n))]),(.agg [(bP cp.1),(ah (af cp.2))]),(iP 0)] _),.c (hS:ae 330 [(ah (af c1.2)),(iP 1)] _),
  .o 42 (.e one_le:PV.le (.e (.sl false 1 1 fun i_ j_=>[(.v (.int .u32 1))].getD (i_*1+j_) (.v (.bool false)))) (.e (ah (af 1)))),ar ((t:Int)+24) (by omega),ar ((((t+24):Nat):Int)+4) (by omega),
  .c (hE:ae 329 [(ah (af 1)),(iP ((((t+24)+4):Nat):Int))] _),.c (hU:ae 334 [(ag x.hi),(iP ((((p+t)+40):Nat):Int))] _),.c (jt (false,sg):ae 326 [(.agg [(bP false),(ah (af sg))])] _),
  .c (hA0:ae 335 [(.agg [(bP u.1),(ah (af u.2))]),(.agg [(bP (!false)),(ah (af sg))])] _),.c (hA1:ae 335 [(.agg [(bP a0.1),(ah (af a0.2))]),(.agg [(bP false),(ah (af eg))])] _),
  .c (hK:ae 333 [(.agg [(bP a1.1),(ah (af a1.2))]),(.agg [(bP false),(ah (af w2))])] _),.c (hM:ae 181 [(ah (af k.2)),(ah (af w2))] _),
  .c (hL0:ae 335 [(.agg [(bP k.1),(ah (af mm))]),(.agg [(bP false),(ah (af sg))])] _),.c (hV:ae 334 [(ag x.lo),(iP ((((p+t)+40):Nat):Int))] _),
  .c (jt (v.1,v.2):ae 326 [(.agg [(bP v.1),(ah (af v.2))])] _),.c (hD0:ae 335 [(.agg [(bP l0.1),(ah (af l0.2))]),(.agg [(bP (!v.1)),(ah (af v.2))])] _),
  .c (hD1:ae 335 [(.agg [(bP d0.1),(ah (af d0.2))]),(.agg [(bP false),(ah (af eg))])] _),.c (ku (d1.1,d1.2) ‹_›:ae 336 [(.agg [(bP d1.1),(ah (af d1.2))])] _),tB 83 (decide_eq_true hz)] <| .nil) (by kernel_rfl)
theorem JD(x:Iv)(n p t w2 sg eg mm:Nat)(cp u v c1 a0 a1 k l0 d0 d1:Bool×Nat)(hx:x.Valid)(xa:x.all=false)(hn:n<=3)(hp2:p<=2000)(ht:(t:Int)=max (max x.lo.top x.hi.top) 0)(t2:t<=2000)(zd:(af d1.2).length<=256)(hPi:ae 328 [iP ((((p+t)+40):Nat):Int)] (.agg [(bP cp.1),(ah (af cp.2))]))(hU:ae 334 [ag x.hi,iP ((((p+t)+40):Nat):Int)] (.agg [(bP u.1),(ah (af u.2))]))(hV:ae 334 [ag x.lo,iP ((((p+t)+40):Nat):Int)] (.agg [(bP v.1),(ah (af v.2))]))(hW:ae 329 [(ah (af cp.2)),iP ((1:Nat):Int)] (ah (af w2)))(hC1:ae 332 [(.agg [(bP false),(ah (af n))]),(.agg [(bP cp.1),(ah (af cp.2))]),iP ((0:Nat):Int)] (.agg [(bP c1.1),(ah (af c1.2))]))(hS:ae 330 [(ah (af c1.2)),iP ((1:Nat):Int)] (ah (af sg)))(hE:ae 329 [(ah (af 1)),iP ((((t+24)+4):Nat):Int)] (ah (af eg)))(hA0:ae 335 [(.agg [(bP u.1),(ah (af u.2))]),(.agg [(bP (!false)),(ah (af sg))])] (.agg [(bP a0.1),(ah (af a0.2))]))(hA1:ae 335 [(.agg [(bP a0.1),(ah (af a0.2))]),(.agg [(bP false),(ah (af eg))])] (.agg [(bP a1.1),(ah (af a1.2))]))(hK:ae 333 [(.agg [(bP a1.1),(ah (af a1.2))]),(.agg [(bP false),(ah (af w2))])] (.agg [(bP k.1),(ah (af k.2))]))(hM:ae 181 [(ah (af k.2)),(ah (af w2))] (.aq [(ah (af mm)),(iP 0)]))(hL0:ae 335 [(.agg [(bP k.1),(ah (af mm))]),(.agg [(bP false),(ah (af sg))])] (.agg [(bP l0.1),(ah (af l0.2))]))(hD0:ae 335 [(.agg [(bP l0.1),(ah (af l0.2))]),(.agg [(bP (!v.1)),(ah (af v.2))])] (.agg [(bP d0.1),(ah (af d0.2))]))(hD1:ae 335 [(.agg [(bP d0.1),(ah (af d0.2))]),(.agg [(bP false),(ah (af eg))])] (.agg [(bP d1.1),(ah (af d1.2))]))(hz:¬d1.2=0):ae 316 [(ai x),(iP n),(iP p)] (bP (!d1.1)):=by
 obtain⟨w1,w2'⟩:=hx.ends;have z1:(af 1).length<=256:=ig (by decide);exact tr true Tryz.call316 Tryz.func316 (chain [.c (bR _ ‹_›:ae 130 [(ag x.lo)] _),.c (bR _ ‹_›:ae 130 [(ag x.hi)] _),
  .o 24 (.int (by(repeat' split)<;>omega):PV.le (.e (iP (if 0>(if(Dy.top x.hi)>(Dy.top x.lo)then(Dy.top x.hi)else(Dy.top x.lo))then 0 else(if(Dy.top x.hi)>(Dy.top x.lo)then(Dy.top x.hi)else(Dy.top x.lo))))) (.e (iP t))),
  ar ((p:Int)+(t:Int)) (by omega),ar ((((p+t):Nat):Int)+40) (by omega),.c (hPi:ae 328 [(iP ((((p+t)+40):Nat):Int))] _),.c (hW:ae 329 [(ah (af cp.2)),(iP 1)] _),
  .c (vE n (by omega)),.c (hC1:ae 332 [(.agg [(bP false),(ah (af n))]),(.agg [(bP cp.1),(ah (af cp.2))]),(iP 0)] _),.c (hS:ae 330 [(ah (af c1.2)),(iP 1)] _),
  .o 42 (.e one_le:PV.le (.e (.sl false 1 1 fun i_ j_=>[(.v (.int .u32 1))].getD (i_*1+j_) (.v (.bool false)))) (.e (ah (af 1)))),ar ((t:Int)+24) (by omega),ar ((((t+24):Nat):Int)+4) (by omega),
  .c (hE:ae 329 [(ah (af 1)),(iP ((((t+24)+4):Nat):Int))] _),.c (hU:ae 334 [(ag x.hi),(iP ((((p+t)+40):Nat):Int))] _),.c (jt (false,sg):ae 326 [(.agg [(bP false),(ah (af sg))])] _),
  .c (hA0:ae 335 [(.agg [(bP u.1),(ah (af u.2))]),(.agg [(bP (!false)),(ah (af sg))])] _),.c (hA1:ae 335 [(.agg [(bP a0.1),(ah (af a0.2))]),(.agg [(bP false),(ah (af eg))])] _),
  .c (hK:ae 333 [(.agg [(bP a1.1),(ah (af a1.2))]),(.agg [(bP false),(ah (af w2))])] _),.c (hM:ae 181 [(ah (af k.2)),(ah (af w2))] _),
  .c (hL0:ae 335 [(.agg [(bP k.1),(ah (af mm))]),(.agg [(bP false),(ah (af sg))])] _),.c (hV:ae 334 [(ag x.lo),(iP ((((p+t)+40):Nat):Int))] _),
  .c (jt (v.1,v.2):ae 326 [(.agg [(bP v.1),(ah (af v.2))])] _),.c (hD0:ae 335 [(.agg [(bP l0.1),(ah (af l0.2))]),(.agg [(bP (!v.1)),(ah (af v.2))])] _),
  .c (hD1:ae 335 [(.agg [(bP d0.1),(ah (af d0.2))]),(.agg [(bP false),(ah (af eg))])] _),.c (ku (d1.1,d1.2) ‹_›:ae 336 [(.agg [(bP d1.1),(ah (af d1.2))])] _),tB 83 (decide_eq_false hz)] <| .nil) (by kernel_rfl)
theorem qp{a b:Bool×Nat}{i j n:Nat}(ha:a.2<2^i)(hb:b.2<2^j)(hi:i<=n)(hj:j<=n)(hn:n<=8000):∃ r:Bool×Nat,r.2<2^(n+1)/\ae 335 [(.agg [(bP a.1),(ah (af a.2))]),(.agg [(bP b.1),(ah (af b.2))])] (.agg [(bP r.1),(ah (af r.2))]) :=
 ⟨aU a b,L9 ha hb hi hj,ic a (ch ha (by omega)) b (ch hb (by omega)) (ch (ua ha hb hi hj) (by omega))⟩
theorem sD{x:Iv}(hx:x.Valid)(xa:x.all=false)(n:Nat)(hn:n<=3)(p:Nat)(hp2:p<=1000)(h1:x.lo.top<=100)(h2:x.hi.top<=100):∃ r:Bool,ae 316 [ai x,iP (n:Int),iP (p:Int)] (bP r):=by
 obtain⟨w1,w2⟩:=hx.ends;obtain⟨t,ht⟩:∃ t:Nat,(t:Int)=max (max x.lo.top x.hi.top) 0:=⟨(max (max x.lo.top x.hi.top) 0).toNat,by omega⟩
 obtain⟨cp,c1,c2,c3,hPi⟩:=A9 (p+t+40) (by omega) (by omega);have hU:=vC x.hi w2 (p+t+40) 6000 (by omega) (by decide) (by omega);have hV:=vC x.lo w1 (p+t+40) 6000 (by omega) (by decide) (by omega);have yu:=tR (d:=x.hi) (b:=p+t+40) (K:=6000) (by omega);have yv:=tR (d:=x.lo) (b:=p+t+40) (K:=6000) (by omega)
 have yc:=q8 (m:=cp.2) (i:=p+t+40+3) (k:=2000) (by have e:(2:Nat)^(p+t+40+3)=2^(p+t+40)*8:=Nat.pow_add 2 _ 3;have:0<2^(p+t+40):=Nat.pow_pos (by decide);omega) (by omega);generalize fM x.hi (p+t+40)=u at hU yu;generalize fM x.lo (p+t+40)=v at hV yv;obtain⟨K,hK⟩:∃ K,K=6000:=⟨_,rfl⟩
 rw[<-hK]at yu yv;obtain⟨J,hJ⟩:∃ J,J=2000:=⟨_,rfl⟩
 rw[<-hJ]at yc;have zc:(af cp.2).length<=256:=ch yc (by omega);have yw:cp.2*2^1<2^(J+1):=by have e:2^(J+1)=2^J*2:=Nat.pow_succ _ _;omega
 have hW:=mg cp.2 1 zc (by decide) (ch yw (by omega));have w0:cp.2*2^1≠0:=by omega
 generalize cp.2*2^1=w at hW yw w0;have yn:n*cp.2<2^(J+2):=by have e:2^(J+2)=2^J*4:=Nat.pow_add 2 J 2;have:=Nat.mul_le_mul_right cp.2 hn;omega
 have hC1:=oV (false,n) (ig (by show n<_;omega)) cp zc 0 (by decide) (ch yn (by omega));have y1:n*cp.2/2^0<2^(J+2):=Nat.lt_of_le_of_lt (Nat.div_le_self _ _) yn;obtain⟨q,hq⟩:∃ q:Bool×Nat,q=(false != cp.1,n*cp.2/2^0):=⟨_,rfl⟩
 have yq:q.2<2^(J+2):=by rw[hq];exact y1
 have hC2:ae 332 [(.agg [(bP false),(ah (af n))]),(.agg [(bP cp.1),(ah (af cp.2))]),iP ((0:Nat):Int)] (.agg [(bP q.1),(ah (af q.2))]):=by rw[hq];exact hC1
 clear hC1 hq;have hS:=jO q.2 1 (ch yq (by omega)) (by decide);have ys:q.2/2^1<2^(J+2):=Nat.lt_of_le_of_lt (Nat.div_le_self _ _) yq;generalize q.2/2^1=sg at hS ys;have ye:1*2^(t+24+4)<2^K:=by rw[Nat.one_mul];exact Nat.pow_lt_pow_right (by decide) (by omega)
 have hE:=mg 1 (t+24+4) (ig (by decide)) (by omega) (ch ye (by omega));generalize 1*2^(t+24+4)=eg at hE ye;obtain⟨a0,x0,hA0⟩:=qp (b:=(!false,sg)) yu ys (n:=K) (by omega) (by omega) (by omega);obtain⟨a1,x1,hA1⟩:=qp (b:=(false,eg)) x0 ye (n:=K+1) (by omega) (by omega) (by omega);have yf:a1.2/w+1<2^(K+3):=by
  have e:2^(K+3)=2^(K+1+1)*2:=Nat.pow_succ _ _;have:=Nat.div_le_self a1.2 w;have:0<2^(K+1+1):=Nat.pow_pos (by decide);omega
 have hF:=Jz a1 (false,w) (ch x1 (by omega)) (ch yw (by omega)) w0 (ch yf (by omega));have yk:=Nat.lt_of_le_of_lt (Cs a1 (false,w)) yf;have ym:(eF a1 (false,w)).2*w<2^(K+3):=Nat.lt_of_le_of_lt (Mj a1 (false,w)) (ua (n:=K+2) x1 yw (by omega) (by omega));generalize eF a1 (false,w)=k at hF yk ym
 have hM:=lq k.2 w (ch yk (by omega)) (ch yw (by omega)) (ch ym (by omega));generalize k.2*w=mm at hM ym;obtain⟨l0,x2,hL0⟩:=qp (a:=(k.1,mm)) (b:=(false,sg)) ym ys (n:=K+3) (by omega) (by omega) (by omega);obtain⟨d0,x3,hD0⟩:=qp (b:=(!v.1,v.2)) x2 yv (n:=K+4) (by omega) (by omega) (by omega)
 obtain⟨d1,x4,hD1⟩:=qp (b:=(false,eg)) x3 ye (n:=K+5) (by omega) (by omega) (by omega);by_cases hz:d1.2=0
 .exact ⟨_,JE x n p t w sg eg mm cp u v q a0 a1 k l0 d0 d1 hx xa hn (by omega) ht (by omega) (ch x4 (by omega)) hPi hU hV hW hC2 hS hE hA0 hA1 hF hM hL0 hD0 hD1 hz⟩
 .exact ⟨_,JD x n p t w sg eg mm cp u v q a0 a1 k l0 d0 d1 hx xa hn (by omega) ht (by omega) (ch x4 (by omega)) hPi hU hV hW hC2 hS hE hA0 hA1 hF hM hL0 hD0 hD1 hz⟩
open Go.RowKit Fp Pu
def bt:Iv:=⟨az (-1),az 1,false⟩
theorem gJ:bt.Valid:=.inr ⟨rfl,show(az (-1)).Valid from dD (by decide),show(az 1).Valid from dD (by decide),by decide +kernel⟩
theorem ff  : ae 313 [] (ai bt):=by
 have h1:(az (-1)).Valid:=dD (by decide);have h2:(az 1).Valid:=dD (by decide);exact tr true Tryz.call313 Tryz.func313 (chain [.c (dB _ (by omega):ae 113 [(iP (-1))] _),.c (dB _ (by omega):ae 113 [(iP 1)] _)]<|rR (ai bt) (.of_eq rfl:E.le (ai (Iv.mk (az (-1)) (az 1) false)) (ai bt))) (by kernel_rfl)
theorem Ie(x y:Iv)(hx:x.Valid)(hy:y.Valid)(xa:(x.all||y.all)=true):ae 158 [(ai x),(ai y)] (ai aj):=by
 exact tr true Tryz.call158 Tryz.func158 (chain [.o 7 (.e (lj _ _):PV.le (.e (.sl true 2 7 fun i_ j_=>(aF x++aF y).getD (i_*7+j_) (.v (.bool false)))) (.e (an [x,y]))),.c (lh _ _ ‹_› ‹_›:ae 86 [(an [x,y])] _),
  tB 8 (by rw[xa];rfl:(!(x.all||y.all))=false),.c du] <| .nil) (by kernel_rfl)
theorem Ig{x y:Iv}(hx:x.Valid)(hy:y.Valid):∃ Z,Z.Valid/\ae 158 [ai x,ai y] (ai Z):=by
 cases h:(x.all||y.all)with
 | true=>exact⟨aj,cC,Ie x y hx hy h⟩
 | false =>
  obtain⟨h1,h2⟩:=Bool.or_eq_false_iff.1 h;exact⟨eW x y,CN hx hy,AG x y hx hy h1 h2⟩
theorem Ip(x:Iv)(hx:x.Valid)(xa:x.all=true):ae 314 [(ai x),(ai bt)] (.aq [ai bt,bP true]):=by
 have hu:=gJ;exact tr true Tryz.call314 Tryz.func314 (chain [.c (dc x ‹_›),.c (dc bt ‹_›),tB 19 (xa:x.all=true)] <| .nil) (by kernel_rfl)
theorem Ir(x:Iv)(hx:x.Valid)(xa:x.all=false)(h:0<aD (maxD x.lo bt.lo) (minD x.hi bt.hi)):ae 314 [(ai x),(ai bt)] (.aq [ai ke,bP false]):=by
 have hu:=gJ;obtain⟨v1,v2⟩:=hx.ends;obtain⟨v3,v4⟩:=hu.ends;have m1:=iF v1 v3;have m2:=jS v2 v4;exact tr true Tryz.call314 Tryz.func314 (chain [.c (dc x ‹_›),.c (dc bt ‹_›),tB 19 (xa:x.all=false),tB 23 (rfl:bt.all=false),.c (tu x.lo bt.lo ‹_› ‹_›),
  .c (tp x.hi bt.hi ‹_› ‹_›),.c (b9 _ _ ‹_› ‹_›:ae 37 [(ag (maxD x.lo bt.lo)),(ag (minD x.hi bt.hi))] _),tB 41 (decide_eq_true h)]<|rR (.aq [ai ke,bP false]) (.aq (.cons GS (.cons (.refl _) .nil)):E.le (.aq [(.agg [(bP false),(.v (.slice none 0 0)),(iP 0),(bP false),(.v (.slice none 0 0)),(iP 0),(bP false)]),(bP false)]) (.aq [ai ke,bP false]))) (by kernel_rfl)
theorem Is(x:Iv)(hx:x.Valid)(xa:x.all=false)(h:¬0<aD (maxD x.lo bt.lo) (minD x.hi bt.hi)):ae 314 [(ai x),(ai bt)] (.aq [ai (Iv.mk (maxD x.lo bt.lo) (minD x.hi bt.hi) false),bP true]):=by
 have hu:=gJ;obtain⟨v1,v2⟩:=hx.ends;obtain⟨v3,v4⟩:=hu.ends;have m1:=iF v1 v3;have m2:=jS v2 v4;exact tr true Tryz.call314 Tryz.func314 (chain [.c (dc x ‹_›),.c (dc bt ‹_›),tB 19 (xa:x.all=false),tB 23 (rfl:bt.all=false),.c (tu x.lo bt.lo ‹_› ‹_›),
  .c (tp x.hi bt.hi ‹_› ‹_›),.c (b9 _ _ ‹_› ‹_›:ae 37 [(ag (maxD x.lo bt.lo)),(ag (minD x.hi bt.hi))] _),tB 41 (decide_eq_false h)] <| .nil) (by kernel_rfl)
structure fY(Y:Iv):Prop where
 v:Y.Valid
 f:Y.all=false
 l:aD bt.lo Y.lo<=0
 h:aD Y.hi bt.hi<=0
theorem Te:fY bt:=⟨gJ,rfl,by decide +kernel,by decide +kernel⟩
theorem Iq{x:Iv}(hx:x.Valid):(∃ Y,fY Y/\ae 314 [ai x,ai bt] (.aq [ai Y,bP true]))\/ae 314 [ai x,ai bt] (.aq [ai ke,bP false]):=by
 cases xa:x.all with
 | true=>exact .inl ⟨bt,Te,Ip x hx xa⟩
 | false =>
  by_cases h:0<aD (maxD x.lo bt.lo) (minD x.hi bt.hi)
  .exact .inr (Ir x hx xa h)
  .have v1:(maxD x.lo bt.lo).Valid:=iF hx.ends.1 gJ.ends.1
   have v2:(minD x.hi bt.hi).Valid:=jS hx.ends.2 gJ.ends.2;have h1:aD bt.lo (maxD x.lo bt.lo)<=0:=DC _ _;have h2:aD (minD x.hi bt.hi) bt.hi<=0:=DE _ _;have hq:=Is x hx xa h;have h3:aD (maxD x.lo bt.lo) (minD x.hi bt.hi)<=0:=by omega
   generalize maxD x.lo bt.lo=a at *
   generalize minD x.hi bt.hi=b at *
   exact .inl ⟨⟨a,b,false⟩,⟨.inr ⟨rfl,v1,v2,h3⟩,rfl,h1,h2⟩,hq⟩
theorem fY.up{Y:Iv}(h:fY Y):fY ⟨Y.lo,az 1,false⟩:=by
 have e:=h.v.ends;refine⟨.inr ⟨rfl,e.1,dD (n:=1) (by decide),?_⟩,rfl,h.l,show aD (az 1) (az 1)<=0 by decide +kernel⟩;have:=h.v.q;rw[eI];exact Rat.le_trans this ((eI _ _).1 h.h)
theorem fY.dn{Y:Iv}(h:fY Y):fY ⟨az (-1),Y.hi,false⟩:=by
 have e:=h.v.ends;refine⟨.inr ⟨rfl,dD (n:=-1) (by decide),e.2,?_⟩,rfl,show aD (az (-1)) (az (-1))<=0 by decide +kernel,h.h⟩;have:=h.v.q;rw[eI];exact Rat.le_trans ((eI _ _).1 h.l) this
theorem fe(p:Nat)(hp1:8<=p)(hp2:p<=512):ae 312 [(iP p)] (bP true):=by
 exact tr true Tryz.call312 Tryz.func312 (chain [tT 4 (8<=(p:Int)) (by omega),tT 7 ((p:Int)<=512) (by omega)] <| .nil) (by kernel_rfl)
theorem Ja(x:Iv)(p:Nat)(hx:x.Valid)(xa:x.all=true)(hp1:8<=p)(hp2:p<=512):ae 284 [(ai x),(bP true),(iP p)] (ai aj):=by
 exact tr true Tryz.call284 Tryz.func284 (chain [.c (fe _ (by omega) (by omega):ae 312 [(iP p)] _),.c (dc x ‹_›),tB 22 (xa:x.all=true),.c du] <| .nil) (by kernel_rfl)
theorem Jk(x:Iv)(p:Nat)(hx:x.Valid)(xa:x.all=false)(hp1:8<=p)(hp2:p<=512)(h1:100<x.lo.top):ae 284 [(ai x),(bP true),(iP p)] (ai bt):=by
 obtain⟨w1,w2⟩:=hx.ends;have h7:(az 7).Valid:=dD (by decide);have wv:(bL x 64).Valid:=ef _ (by decide) (by decide) _;exact tr true Tryz.call284 Tryz.func284 (chain [.c (fe _ (by omega) (by omega):ae 312 [(iP p)] _),.c (dc x ‹_›),tB 22 (xa:x.all=false),.c (bR _ ‹_›:ae 130 [(ag x.lo)] _),tB 28 (decide_eq_true h1),
  .c (ff:ae 313 [] _)] <| .nil) (by kernel_rfl)
theorem Jm(x:Iv)(p:Nat)(hx:x.Valid)(xa:x.all=false)(hp1:8<=p)(hp2:p<=512)(h1:¬100<x.lo.top)(h2:100<x.hi.top):ae 284 [(ai x),(bP true),(iP p)] (ai bt):=by
 obtain⟨w1,w2⟩:=hx.ends;have h7:(az 7).Valid:=dD (by decide);have wv:(bL x 64).Valid:=ef _ (by decide) (by decide) _;exact tr true Tryz.call284 Tryz.func284 (chain [.c (fe _ (by omega) (by omega):ae 312 [(iP p)] _),.c (dc x ‹_›),tB 22 (xa:x.all=false),.c (bR _ ‹_›:ae 130 [(ag x.lo)] _),tB 28 (decide_eq_false h1),
  .c (bR _ ‹_›:ae 130 [(ag x.hi)] _),tB 33 (decide_eq_true h2),.c (ff:ae 313 [] _)] <| .nil) (by kernel_rfl)
theorem Jo(x:Iv)(p:Nat)(hx:x.Valid)(xa:x.all=false)(hp1:8<=p)(hp2:p<=512)(h1:¬100<x.lo.top)(h2:¬100<x.hi.top)(h3:¬eR x 64=0):ae 284 [(ai x),(bP true),(iP p)] (ai bt):=by
 obtain⟨w1,w2⟩:=hx.ends;have h7:(az 7).Valid:=dD (by decide);have wv:(bL x 64).Valid:=ef _ (by decide) (by decide) _;exact tr true Tryz.call284 Tryz.func284 (chain [.c (fe _ (by omega) (by omega):ae 312 [(iP p)] _),.c (dc x ‹_›),tB 22 (xa:x.all=false),.c (bR _ ‹_›:ae 130 [(ag x.lo)] _),tB 28 (decide_eq_false h1),
  .c (bR _ ‹_›:ae 130 [(ag x.hi)] _),tB 33 (decide_eq_false h2),.c (fo x 64 ‹_› ‹_› (by omega) (by omega)),tB 40 (decide_eq_false h3),.c (ff:ae 313 [] _)] <| .nil) (by kernel_rfl)
theorem Jq(x:Iv)(p:Nat)(hx:x.Valid)(xa:x.all=false)(hp1:8<=p)(hp2:p<=512)(h1:¬100<x.lo.top)(h2:¬100<x.hi.top)(h3:eR x 64=0)(h4:0<=aD (bL x 64) (az 7)):ae 284 [(ai x),(bP true),(iP p)] (ai bt):=by
 obtain⟨w1,w2⟩:=hx.ends;have h7:(az 7).Valid:=dD (by decide);have wv:(bL x 64).Valid:=ef _ (by decide) (by decide) _;exact tr true Tryz.call284 Tryz.func284 (chain [.c (fe _ (by omega) (by omega):ae 312 [(iP p)] _),.c (dc x ‹_›),tB 22 (xa:x.all=false),.c (bR _ ‹_›:ae 130 [(ag x.lo)] _),tB 28 (decide_eq_false h1),
  .c (bR _ ‹_›:ae 130 [(ag x.hi)] _),tB 33 (decide_eq_false h2),.c (fo x 64 ‹_› ‹_› (by omega) (by omega)),tB 40 (decide_eq_true h3),.c (dB _ (by omega):ae 113 [(iP 7)] _),
  .c (b9 _ _ ‹_› ‹_›:ae 37 [(ag (bL x 64)),(ag (az 7))] _),tB 47 (decide_eq_true h4),.c (ff:ae 313 [] _)] <| .nil) (by kernel_rfl)
theorem Je(x:Iv)(p:Nat)(hx:x.Valid)(xa:x.all=false)(hp1:8<=p)(hp2:p<=512)(h1:¬100<x.lo.top)(h2:¬100<x.hi.top)(h3:eR x 64=0)(h4:¬0<=aD (bL x 64) (az 7))(P1 P2 H:Iv)(hP1:ae 315 [ag x.lo,bP true,iP (p:Int)] (ai P1))(hP2:ae 315 [ag x.hi,bP true,iP (p:Int)] (ai P2))(hH:ae 158 [ai P1,ai P2] (ai H))(hMt:ae 314 [ai H,ai bt] (.aq [ai ke,bP false])):ae 284 [(ai x),(bP true),(iP p)] (ai bt):=by
 obtain⟨w1,w2⟩:=hx.ends;have h7:(az 7).Valid:=dD (by decide);have wv:(bL x 64).Valid:=ef _ (by decide) (by decide) _;exact tr true Tryz.call284 Tryz.func284 (chain [.c (fe _ (by omega) (by omega):ae 312 [(iP p)] _),.c (dc x ‹_›),tB 22 (xa:x.all=false),.c (bR _ ‹_›:ae 130 [(ag x.lo)] _),tB 28 (decide_eq_false h1),
  .c (bR _ ‹_›:ae 130 [(ag x.hi)] _),tB 33 (decide_eq_false h2),.c (fo x 64 ‹_› ‹_› (by omega) (by omega)),tB 40 (decide_eq_true h3),.c (dB _ (by omega):ae 113 [(iP 7)] _),
  .c (b9 _ _ ‹_› ‹_›:ae 37 [(ag (bL x 64)),(ag (az 7))] _),tB 47 (decide_eq_false h4),.c (hP1:ae 315 [(ag x.lo),(bP true),(iP p)] _),
  .c (hP2:ae 315 [(ag x.hi),(bP true),(iP p)] _),.c (hH:ae 158 [(ai P1),(ai P2)] _),.c (ff:ae 313 [] _),.c (hMt:ae 314 [(ai H),(ai bt)] _),.c (ff:ae 313 [] _)] <| .nil) (by kernel_rfl)
theorem Jc(x:Iv)(p:Nat)(hx:x.Valid)(xa:x.all=false)(hp1:8<=p)(hp2:p<=512)(h1:¬100<x.lo.top)(h2:¬100<x.hi.top)(h3:eR x 64=0)(h4:¬0<=aD (bL x 64) (az 7))(P1 P2 H Y:Iv)(hY:fY Y)(hP1:ae 315 [ag x.lo,bP true,iP (p:Int)] (ai P1))(hP2:ae 315 [ag x.hi,bP true,iP (p:Int)] (ai P2))(hH:ae 158 [ai P1,ai P2] (ai H))(hMt:ae 314 [ai H,ai bt] (.aq [ai Y,bP true]))(h5:aD x.lo x.hi=0):ae 284 [(ai x),(bP true),(iP p)] (ai Y):=by
 obtain⟨w1,w2⟩:=hx.ends;have h7:(az 7).Valid:=dD (by decide);have wv:(bL x 64).Valid:=ef _ (by decide) (by decide) _;exact tr true Tryz.call284 Tryz.func284 (chain [.c (fe _ (by omega) (by omega):ae 312 [(iP p)] _),.c (dc x ‹_›),tB 22 (xa:x.all=false),.c (bR _ ‹_›:ae 130 [(ag x.lo)] _),tB 28 (decide_eq_false h1),
  .c (bR _ ‹_›:ae 130 [(ag x.hi)] _),tB 33 (decide_eq_false h2),.c (fo x 64 ‹_› ‹_› (by omega) (by omega)),tB 40 (decide_eq_true h3),.c (dB _ (by omega):ae 113 [(iP 7)] _),
  .c (b9 _ _ ‹_› ‹_›:ae 37 [(ag (bL x 64)),(ag (az 7))] _),tB 47 (decide_eq_false h4),.c (hP1:ae 315 [(ag x.lo),(bP true),(iP p)] _),
  .c (hP2:ae 315 [(ag x.hi),(bP true),(iP p)] _),.c (hH:ae 158 [(ai P1),(ai P2)] _),.c (ff:ae 313 [] _),.c (hMt:ae 314 [(ai H),(ai bt)] _),
  .c (b9 _ _ ‹_› ‹_›:ae 37 [(ag x.lo),(ag x.hi)] _),tB 74 (by rw[h5];rfl:((aD x.lo x.hi)==0)=true)] <| .nil) (by kernel_rfl)
theorem Ju(x:Iv)(p:Nat)(hx:x.Valid)(xa:x.all=false)(hp1:8<=p)(hp2:p<=512)(h1:¬100<x.lo.top)(h2:¬100<x.hi.top)(h3:eR x 64=0)(h4:¬0<=aD (bL x 64) (az 7))(P1 P2 H Y:Iv)(hY:fY Y)(hP1:ae 315 [ag x.lo,bP true,iP (p:Int)] (ai P1))(hP2:ae 315 [ag x.hi,bP true,iP (p:Int)] (ai P2))(hH:ae 158 [ai P1,ai P2] (ai H))(hMt:ae 314 [ai H,ai bt] (.aq [ai Y,bP true]))(h5:¬aD x.lo x.hi=0)(hM1:ae 316 [ai x,iP ((0:Nat):Int),iP ((p+64:Nat):Int)] (bP true))(hM2:ae 316 [ai x,iP ((2:Nat):Int),iP ((p+64:Nat):Int)] (bP true)):ae 284 [(ai x),(bP true),(iP p)] (ai (Iv.mk (az (-1)) (az 1) Y.all)):=by
 obtain⟨w1,w2⟩:=hx.ends;have h7:(az 7).Valid:=dD (by decide);have wv:(bL x 64).Valid:=ef _ (by decide) (by decide) _;exact tr true Tryz.call284 Tryz.func284 (chain [.c (fe _ (by omega) (by omega):ae 312 [(iP p)] _),.c (dc x ‹_›),tB 22 (xa:x.all=false),.c (bR _ ‹_›:ae 130 [(ag x.lo)] _),tB 28 (decide_eq_false h1),
  .c (bR _ ‹_›:ae 130 [(ag x.hi)] _),tB 33 (decide_eq_false h2),.c (fo x 64 ‹_› ‹_› (by omega) (by omega)),tB 40 (decide_eq_true h3),.c (dB _ (by omega):ae 113 [(iP 7)] _),
  .c (b9 _ _ ‹_› ‹_›:ae 37 [(ag (bL x 64)),(ag (az 7))] _),tB 47 (decide_eq_false h4),.c (hP1:ae 315 [(ag x.lo),(bP true),(iP p)] _),
  .c (hP2:ae 315 [(ag x.hi),(bP true),(iP p)] _),.c (hH:ae 158 [(ai P1),(ai P2)] _),.c (ff:ae 313 [] _),.c (hMt:ae 314 [(ai H),(ai bt)] _),
  .c (b9 _ _ ‹_› ‹_›:ae 37 [(ag x.lo),(ag x.hi)] _),tB 74 (by simpa using h5:((aD x.lo x.hi)==0)=false),ar ((p:Int)+64) (by omega),
  .c (hM1:ae 316 [(ai x),(iP 0),(iP (((p+64):Nat):Int))] _),.c (dB _ (by omega):ae 113 [(iP 1)] _),ar ((p:Int)+64) (by omega),.c (hM2:ae 316 [(ai x),(iP 2),(iP (((p+64):Nat):Int))] _),
  .c (dB _ (by omega):ae 113 [(iP (-1))] _)]<|rR (ai (Iv.mk (az (-1)) (az 1) Y.all)) (.of_eq rfl:E.le (ai (Iv.mk (az (-1)) (az 1) Y.all)) (ai (Iv.mk (az (-1)) (az 1) Y.all)))) (by kernel_rfl)
theorem Js(x:Iv)(p:Nat)(hx:x.Valid)(xa:x.all=false)(hp1:8<=p)(hp2:p<=512)(h1:¬100<x.lo.top)(h2:¬100<x.hi.top)(h3:eR x 64=0)(h4:¬0<=aD (bL x 64) (az 7))(P1 P2 H Y:Iv)(hY:fY Y)(hP1:ae 315 [ag x.lo,bP true,iP (p:Int)] (ai P1))(hP2:ae 315 [ag x.hi,bP true,iP (p:Int)] (ai P2))(hH:ae 158 [ai P1,ai P2] (ai H))(hMt:ae 314 [ai H,ai bt] (.aq [ai Y,bP true]))(h5:¬aD x.lo x.hi=0)(hM1:ae 316 [ai x,iP ((0:Nat):Int),iP ((p+64:Nat):Int)] (bP true))(hM2:ae 316 [ai x,iP ((2:Nat):Int),iP ((p+64:Nat):Int)] (bP false)):ae 284 [(ai x),(bP true),(iP p)] (ai (Iv.mk Y.lo (az 1) Y.all)):=by
 obtain⟨w1,w2⟩:=hx.ends;have h7:(az 7).Valid:=dD (by decide);have wv:(bL x 64).Valid:=ef _ (by decide) (by decide) _;exact tr true Tryz.call284 Tryz.func284 (chain [.c (fe _ (by omega) (by omega):ae 312 [(iP p)] _),.c (dc x ‹_›),tB 22 (xa:x.all=false),.c (bR _ ‹_›:ae 130 [(ag x.lo)] _),tB 28 (decide_eq_false h1),
  .c (bR _ ‹_›:ae 130 [(ag x.hi)] _),tB 33 (decide_eq_false h2),.c (fo x 64 ‹_› ‹_› (by omega) (by omega)),tB 40 (decide_eq_true h3),.c (dB _ (by omega):ae 113 [(iP 7)] _),
  .c (b9 _ _ ‹_› ‹_›:ae 37 [(ag (bL x 64)),(ag (az 7))] _),tB 47 (decide_eq_false h4),.c (hP1:ae 315 [(ag x.lo),(bP true),(iP p)] _),
  .c (hP2:ae 315 [(ag x.hi),(bP true),(iP p)] _),.c (hH:ae 158 [(ai P1),(ai P2)] _),.c (ff:ae 313 [] _),.c (hMt:ae 314 [(ai H),(ai bt)] _),
  .c (b9 _ _ ‹_› ‹_›:ae 37 [(ag x.lo),(ag x.hi)] _),tB 74 (by simpa using h5:((aD x.lo x.hi)==0)=false),ar ((p:Int)+64) (by omega),
  .c (hM1:ae 316 [(ai x),(iP 0),(iP (((p+64):Nat):Int))] _),.c (dB _ (by omega):ae 113 [(iP 1)] _),ar ((p:Int)+64) (by omega),.c (hM2:ae 316 [(ai x),(iP 2),(iP (((p+64):Nat):Int))] _)]<|rR (ai (Iv.mk Y.lo (az 1) Y.all)) (.of_eq rfl:E.le (ai (Iv.mk Y.lo (az 1) Y.all)) (ai (Iv.mk Y.lo (az 1) Y.all)))) (by kernel_rfl)
theorem Ji(x:Iv)(p:Nat)(hx:x.Valid)(xa:x.all=false)(hp1:8<=p)(hp2:p<=512)(h1:¬100<x.lo.top)(h2:¬100<x.hi.top)(h3:eR x 64=0)(h4:¬0<=aD (bL x 64) (az 7))(P1 P2 H Y:Iv)(hY:fY Y)(hP1:ae 315 [ag x.lo,bP true,iP (p:Int)] (ai P1))(hP2:ae 315 [ag x.hi,bP true,iP (p:Int)] (ai P2))(hH:ae 158 [ai P1,ai P2] (ai H))(hMt:ae 314 [ai H,ai bt] (.aq [ai Y,bP true]))(h5:¬aD x.lo x.hi=0)(hM1:ae 316 [ai x,iP ((0:Nat):Int),iP ((p+64:Nat):Int)] (bP false))(hM2:ae 316 [ai x,iP ((2:Nat):Int),iP ((p+64:Nat):Int)] (bP true)):ae 284 [(ai x),(bP true),(iP p)] (ai (Iv.mk (az (-1)) Y.hi Y.all)):=by
 obtain⟨w1,w2⟩:=hx.ends;have h7:(az 7).Valid:=dD (by decide);have wv:(bL x 64).Valid:=ef _ (by decide) (by decide) _;exact tr true Tryz.call284 Tryz.func284 (chain [.c (fe _ (by omega) (by omega):ae 312 [(iP p)] _),.c (dc x ‹_›),tB 22 (xa:x.all=false),.c (bR _ ‹_›:ae 130 [(ag x.lo)] _),tB 28 (decide_eq_false h1),
  .c (bR _ ‹_›:ae 130 [(ag x.hi)] _),tB 33 (decide_eq_false h2),.c (fo x 64 ‹_› ‹_› (by omega) (by omega)),tB 40 (decide_eq_true h3),.c (dB _ (by omega):ae 113 [(iP 7)] _),
  .c (b9 _ _ ‹_› ‹_›:ae 37 [(ag (bL x 64)),(ag (az 7))] _),tB 47 (decide_eq_false h4),.c (hP1:ae 315 [(ag x.lo),(bP true),(iP p)] _),
  .c (hP2:ae 315 [(ag x.hi),(bP true),(iP p)] _),.c (hH:ae 158 [(ai P1),(ai P2)] _),.c (ff:ae 313 [] _),.c (hMt:ae 314 [(ai H),(ai bt)] _),
  .c (b9 _ _ ‹_› ‹_›:ae 37 [(ag x.lo),(ag x.hi)] _),tB 74 (by simpa using h5:((aD x.lo x.hi)==0)=false),ar ((p:Int)+64) (by omega),
  .c (hM1:ae 316 [(ai x),(iP 0),(iP (((p+64):Nat):Int))] _),ar ((p:Int)+64) (by omega),.c (hM2:ae 316 [(ai x),(iP 2),(iP (((p+64):Nat):Int))] _),.c (dB _ (by omega):ae 113 [(iP (-1))] _)]<|rR (ai (Iv.mk (az (-1)) Y.hi Y.all)) (.of_eq rfl:E.le (ai (Iv.mk (az (-1)) Y.hi Y.all)) (ai (Iv.mk (az (-1)) Y.hi Y.all)))) (by kernel_rfl)
theorem Jf(x:Iv)(p:Nat)(hx:x.Valid)(xa:x.all=false)(hp1:8<=p)(hp2:p<=512)(h1:¬100<x.lo.top)(h2:¬100<x.hi.top)(h3:eR x 64=0)(h4:¬0<=aD (bL x 64) (az 7))(P1 P2 H Y:Iv)(hY:fY Y)(hP1:ae 315 [ag x.lo,bP true,iP (p:Int)] (ai P1))(hP2:ae 315 [ag x.hi,bP true,iP (p:Int)] (ai P2))(hH:ae 158 [ai P1,ai P2] (ai H))(hMt:ae 314 [ai H,ai bt] (.aq [ai Y,bP true]))(h5:¬aD x.lo x.hi=0)(hM1:ae 316 [ai x,iP ((0:Nat):Int),iP ((p+64:Nat):Int)] (bP false))(hM2:ae 316 [ai x,iP ((2:Nat):Int),iP ((p+64:Nat):Int)] (bP false)):ae 284 [(ai x),(bP true),(iP p)] (ai (Iv.mk Y.lo Y.hi Y.all)):=by
 obtain⟨w1,w2⟩:=hx.ends;have h7:(az 7).Valid:=dD (by decide);have wv:(bL x 64).Valid:=ef _ (by decide) (by decide) _;exact tr true Tryz.call284 Tryz.func284 (chain [.c (fe _ (by omega) (by omega):ae 312 [(iP p)] _),.c (dc x ‹_›),tB 22 (xa:x.all=false),.c (bR _ ‹_›:ae 130 [(ag x.lo)] _),tB 28 (decide_eq_false h1),
  .c (bR _ ‹_›:ae 130 [(ag x.hi)] _),tB 33 (decide_eq_false h2),.c (fo x 64 ‹_› ‹_› (by omega) (by omega)),tB 40 (decide_eq_true h3),.c (dB _ (by omega):ae 113 [(iP 7)] _),
  .c (b9 _ _ ‹_› ‹_›:ae 37 [(ag (bL x 64)),(ag (az 7))] _),tB 47 (decide_eq_false h4),.c (hP1:ae 315 [(ag x.lo),(bP true),(iP p)] _),
  .c (hP2:ae 315 [(ag x.hi),(bP true),(iP p)] _),.c (hH:ae 158 [(ai P1),(ai P2)] _),.c (ff:ae 313 [] _),.c (hMt:ae 314 [(ai H),(ai bt)] _),
  .c (b9 _ _ ‹_› ‹_›:ae 37 [(ag x.lo),(ag x.hi)] _),tB 74 (by simpa using h5:((aD x.lo x.hi)==0)=false),ar ((p:Int)+64) (by omega),
  .c (hM1:ae 316 [(ai x),(iP 0),(iP (((p+64):Nat):Int))] _),ar ((p:Int)+64) (by omega),.c (hM2:ae 316 [(ai x),(iP 2),(iP (((p+64):Nat):Int))] _)]<|rR (ai (Iv.mk Y.lo Y.hi Y.all)) (.of_eq rfl:E.le (ai Y) (ai (Iv.mk Y.lo Y.hi Y.all)))) (by kernel_rfl)
theorem Jb(x:Iv)(p:Nat)(hx:x.Valid)(xa:x.all=true)(hp1:8<=p)(hp2:p<=512):ae 284 [(ai x),(bP false),(iP p)] (ai aj):=by
 exact tr true Tryz.call284 Tryz.func284 (chain [.c (fe _ (by omega) (by omega):ae 312 [(iP p)] _),.c (dc x ‹_›),tB 22 (xa:x.all=true),.c du] <| .nil) (by kernel_rfl)
theorem Jl(x:Iv)(p:Nat)(hx:x.Valid)(xa:x.all=false)(hp1:8<=p)(hp2:p<=512)(h1:100<x.lo.top):ae 284 [(ai x),(bP false),(iP p)] (ai bt):=by
 obtain⟨w1,w2⟩:=hx.ends;have h7:(az 7).Valid:=dD (by decide);have wv:(bL x 64).Valid:=ef _ (by decide) (by decide) _;exact tr true Tryz.call284 Tryz.func284 (chain [.c (fe _ (by omega) (by omega):ae 312 [(iP p)] _),.c (dc x ‹_›),tB 22 (xa:x.all=false),.c (bR _ ‹_›:ae 130 [(ag x.lo)] _),tB 28 (decide_eq_true h1),
  .c (ff:ae 313 [] _)] <| .nil) (by kernel_rfl)
theorem Jn(x:Iv)(p:Nat)(hx:x.Valid)(xa:x.all=false)(hp1:8<=p)(hp2:p<=512)(h1:¬100<x.lo.top)(h2:100<x.hi.top):ae 284 [(ai x),(bP false),(iP p)] (ai bt):=by
 obtain⟨w1,w2⟩:=hx.ends;have h7:(az 7).Valid:=dD (by decide);have wv:(bL x 64).Valid:=ef _ (by decide) (by decide) _;exact tr true Tryz.call284 Tryz.func284 (chain [.c (fe _ (by omega) (by omega):ae 312 [(iP p)] _),.c (dc x ‹_›),tB 22 (xa:x.all=false),.c (bR _ ‹_›:ae 130 [(ag x.lo)] _),tB 28 (decide_eq_false h1),
  .c (bR _ ‹_›:ae 130 [(ag x.hi)] _),tB 33 (decide_eq_true h2),.c (ff:ae 313 [] _)] <| .nil) (by kernel_rfl)
theorem Jp(x:Iv)(p:Nat)(hx:x.Valid)(xa:x.all=false)(hp1:8<=p)(hp2:p<=512)(h1:¬100<x.lo.top)(h2:¬100<x.hi.top)(h3:¬eR x 64=0):ae 284 [(ai x),(bP false),(iP p)] (ai bt):=by
 obtain⟨w1,w2⟩:=hx.ends;have h7:(az 7).Valid:=dD (by decide);have wv:(bL x 64).Valid:=ef _ (by decide) (by decide) _;exact tr true Tryz.call284 Tryz.func284 (chain [.c (fe _ (by omega) (by omega):ae 312 [(iP p)] _),.c (dc x ‹_›),tB 22 (xa:x.all=false),.c (bR _ ‹_›:ae 130 [(ag x.lo)] _),tB 28 (decide_eq_false h1),
  .c (bR _ ‹_›:ae 130 [(ag x.hi)] _),tB 33 (decide_eq_false h2),.c (fo x 64 ‹_› ‹_› (by omega) (by omega)),tB 40 (decide_eq_false h3),.c (ff:ae 313 [] _)] <| .nil) (by kernel_rfl)
theorem Jr(x:Iv)(p:Nat)(hx:x.Valid)(xa:x.all=false)(hp1:8<=p)(hp2:p<=512)(h1:¬100<x.lo.top)(h2:¬100<x.hi.top)(h3:eR x 64=0)(h4:0<=aD (bL x 64) (az 7)):ae 284 [(ai x),(bP false),(iP p)] (ai bt):=by
 obtain⟨w1,w2⟩:=hx.ends;have h7:(az 7).Valid:=dD (by decide);have wv:(bL x 64).Valid:=ef _ (by decide) (by decide) _;exact tr true Tryz.call284 Tryz.func284 (chain [.c (fe _ (by omega) (by omega):ae 312 [(iP p)] _),.c (dc x ‹_›),tB 22 (xa:x.all=false),.c (bR _ ‹_›:ae 130 [(ag x.lo)] _),tB 28 (decide_eq_false h1),
  .c (bR _ ‹_›:ae 130 [(ag x.hi)] _),tB 33 (decide_eq_false h2),.c (fo x 64 ‹_› ‹_› (by omega) (by omega)),tB 40 (decide_eq_true h3),.c (dB _ (by omega):ae 113 [(iP 7)] _),
  .c (b9 _ _ ‹_› ‹_›:ae 37 [(ag (bL x 64)),(ag (az 7))] _),tB 47 (decide_eq_true h4),.c (ff:ae 313 [] _)] <| .nil) (by kernel_rfl)
theorem Jh(x:Iv)(p:Nat)(hx:x.Valid)(xa:x.all=false)(hp1:8<=p)(hp2:p<=512)(h1:¬100<x.lo.top)(h2:¬100<x.hi.top)(h3:eR x 64=0)(h4:¬0<=aD (bL x 64) (az 7))(P1 P2 H:Iv)(hP1:ae 315 [ag x.lo,bP false,iP (p:Int)] (ai P1))(hP2:ae 315 [ag x.hi,bP false,iP (p:Int)] (ai P2))(hH:ae 158 [ai P1,ai P2] (ai H))(hMt:ae 314 [ai H,ai bt] (.aq [ai ke,bP false])):ae 284 [(ai x),(bP false),(iP p)] (ai bt):=by
 obtain⟨w1,w2⟩:=hx.ends;have h7:(az 7).Valid:=dD (by decide);have wv:(bL x 64).Valid:=ef _ (by decide) (by decide) _;exact tr true Tryz.call284 Tryz.func284 (chain [.c (fe _ (by omega) (by omega):ae 312 [(iP p)] _),.c (dc x ‹_›),tB 22 (xa:x.all=false),.c (bR _ ‹_›:ae 130 [(ag x.lo)] _),tB 28 (decide_eq_false h1),
  .c (bR _ ‹_›:ae 130 [(ag x.hi)] _),tB 33 (decide_eq_false h2),.c (fo x 64 ‹_› ‹_› (by omega) (by omega)),tB 40 (decide_eq_true h3),.c (dB _ (by omega):ae 113 [(iP 7)] _),
  .c (b9 _ _ ‹_› ‹_›:ae 37 [(ag (bL x 64)),(ag (az 7))] _),tB 47 (decide_eq_false h4),.c (hP1:ae 315 [(ag x.lo),(bP false),(iP p)] _),
  .c (hP2:ae 315 [(ag x.hi),(bP false),(iP p)] _),.c (hH:ae 158 [(ai P1),(ai P2)] _),.c (ff:ae 313 [] _),.c (hMt:ae 314 [(ai H),(ai bt)] _),.c (ff:ae 313 [] _)] <| .nil) (by kernel_rfl)
theorem Jd(x:Iv)(p:Nat)(hx:x.Valid)(xa:x.all=false)(hp1:8<=p)(hp2:p<=512)(h1:¬100<x.lo.top)(h2:¬100<x.hi.top)(h3:eR x 64=0)(h4:¬0<=aD (bL x 64) (az 7))(P1 P2 H Y:Iv)(hY:fY Y)(hP1:ae 315 [ag x.lo,bP false,iP (p:Int)] (ai P1))(hP2:ae 315 [ag x.hi,bP false,iP (p:Int)] (ai P2))(hH:ae 158 [ai P1,ai P2] (ai H))(hMt:ae 314 [ai H,ai bt] (.aq [ai Y,bP true]))(h5:aD x.lo x.hi=0):ae 284 [(ai x),(bP false),(iP p)] (ai Y):=by
 obtain⟨w1,w2⟩:=hx.ends;have h7:(az 7).Valid:=dD (by decide);have wv:(bL x 64).Valid:=ef _ (by decide) (by decide) _;exact tr true Tryz.call284 Tryz.func284 (chain [.c (fe _ (by omega) (by omega):ae 312 [(iP p)] _),.c (dc x ‹_›),tB 22 (xa:x.all=false),.c (bR _ ‹_›:ae 130 [(ag x.lo)] _),tB 28 (decide_eq_false h1),
  .c (bR _ ‹_›:ae 130 [(ag x.hi)] _),tB 33 (decide_eq_false h2),.c (fo x 64 ‹_› ‹_› (by omega) (by omega)),tB 40 (decide_eq_true h3),.c (dB _ (by omega):ae 113 [(iP 7)] _),
  .c (b9 _ _ ‹_› ‹_›:ae 37 [(ag (bL x 64)),(ag (az 7))] _),tB 47 (decide_eq_false h4),.c (hP1:ae 315 [(ag x.lo),(bP false),(iP p)] _),
  .c (hP2:ae 315 [(ag x.hi),(bP false),(iP p)] _),.c (hH:ae 158 [(ai P1),(ai P2)] _),.c (ff:ae 313 [] _),.c (hMt:ae 314 [(ai H),(ai bt)] _),
  .c (b9 _ _ ‹_› ‹_›:ae 37 [(ag x.lo),(ag x.hi)] _),tB 74 (by rw[h5];rfl:((aD x.lo x.hi)==0)=true)] <| .nil) (by kernel_rfl)
theorem Jv(x:Iv)(p:Nat)(hx:x.Valid)(xa:x.all=false)(hp1:8<=p)(hp2:p<=512)(h1:¬100<x.lo.top)(h2:¬100<x.hi.top)(h3:eR x 64=0)(h4:¬0<=aD (bL x 64) (az 7))(P1 P2 H Y:Iv)(hY:fY Y)(hP1:ae 315 [ag x.lo,bP false,iP (p:Int)] (ai P1))(hP2:ae 315 [ag x.hi,bP false,iP (p:Int)] (ai P2))(hH:ae 158 [ai P1,ai P2] (ai H))(hMt:ae 314 [ai H,ai bt] (.aq [ai Y,bP true]))(h5:¬aD x.lo x.hi=0)(hM1:ae 316 [ai x,iP ((1:Nat):Int),iP ((p+64:Nat):Int)] (bP true))(hM2:ae 316 [ai x,iP ((3:Nat):Int),iP ((p+64:Nat):Int)] (bP true)):ae 284 [(ai x),(bP false),(iP p)] (ai (Iv.mk (az (-1)) (az 1) Y.all)):=by
 obtain⟨w1,w2⟩:=hx.ends;have h7:(az 7).Valid:=dD (by decide);have wv:(bL x 64).Valid:=ef _ (by decide) (by decide) _;exact tr true Tryz.call284 Tryz.func284 (chain [.c (fe _ (by omega) (by omega):ae 312 [(iP p)] _),.c (dc x ‹_›),tB 22 (xa:x.all=false),.c (bR _ ‹_›:ae 130 [(ag x.lo)] _),tB 28 (decide_eq_false h1),
  .c (bR _ ‹_›:ae 130 [(ag x.hi)] _),tB 33 (decide_eq_false h2),.c (fo x 64 ‹_› ‹_› (by omega) (by omega)),tB 40 (decide_eq_true h3),.c (dB _ (by omega):ae 113 [(iP 7)] _),
  .c (b9 _ _ ‹_› ‹_›:ae 37 [(ag (bL x 64)),(ag (az 7))] _),tB 47 (decide_eq_false h4),.c (hP1:ae 315 [(ag x.lo),(bP false),(iP p)] _),
  .c (hP2:ae 315 [(ag x.hi),(bP false),(iP p)] _),.c (hH:ae 158 [(ai P1),(ai P2)] _),.c (ff:ae 313 [] _),.c (hMt:ae 314 [(ai H),(ai bt)] _),
  .c (b9 _ _ ‹_› ‹_›:ae 37 [(ag x.lo),(ag x.hi)] _),tB 74 (by simpa using h5:((aD x.lo x.hi)==0)=false),ar ((p:Int)+64) (by omega),
  .c (hM1:ae 316 [(ai x),(iP 1),(iP (((p+64):Nat):Int))] _),.c (dB _ (by omega):ae 113 [(iP 1)] _),ar ((p:Int)+64) (by omega),.c (hM2:ae 316 [(ai x),(iP 3),(iP (((p+64):Nat):Int))] _),
  .c (dB _ (by omega):ae 113 [(iP (-1))] _)]<|rR (ai (Iv.mk (az (-1)) (az 1) Y.all)) (.of_eq rfl:E.le (ai (Iv.mk (az (-1)) (az 1) Y.all)) (ai (Iv.mk (az (-1)) (az 1) Y.all)))) (by kernel_rfl)
theorem Jt(x:Iv)(p:Nat)(hx:x.Valid)(xa:x.all=false)(hp1:8<=p)(hp2:p<=512)(h1:¬100<x.lo.top)(h2:¬100<x.hi.top)(h3:eR x 64=0)(h4:¬0<=aD (bL x 64) (az 7))(P1 P2 H Y:Iv)(hY:fY Y)(hP1:ae 315 [ag x.lo,bP false,iP (p:Int)] (ai P1))(hP2:ae 315 [ag x.hi,bP false,iP (p:Int)] (ai P2))(hH:ae 158 [ai P1,ai P2] (ai H))(hMt:ae 314 [ai H,ai bt] (.aq [ai Y,bP true]))(h5:¬aD x.lo x.hi=0)(hM1:ae 316 [ai x,iP ((1:Nat):Int),iP ((p+64:Nat):Int)] (bP true))(hM2:ae 316 [ai x,iP ((3:Nat):Int),iP ((p+64:Nat):Int)] (bP false)):ae 284 [(ai x),(bP false),(iP p)] (ai (Iv.mk Y.lo (az 1) Y.all)):=by
 obtain⟨w1,w2⟩:=hx.ends;have h7:(az 7).Valid:=dD (by decide);have wv:(bL x 64).Valid:=ef _ (by decide) (by decide) _;exact tr true Tryz.call284 Tryz.func284 (chain [.c (fe _ (by omega) (by omega):ae 312 [(iP p)] _),.c (dc x ‹_›),tB 22 (xa:x.all=false),.c (bR _ ‹_›:ae 130 [(ag x.lo)] _),tB 28 (decide_eq_false h1),
  .c (bR _ ‹_›:ae 130 [(ag x.hi)] _),tB 33 (decide_eq_false h2),.c (fo x 64 ‹_› ‹_› (by omega) (by omega)),tB 40 (decide_eq_true h3),.c (dB _ (by omega):ae 113 [(iP 7)] _),
  .c (b9 _ _ ‹_› ‹_›:ae 37 [(ag (bL x 64)),(ag (az 7))] _),tB 47 (decide_eq_false h4),.c (hP1:ae 315 [(ag x.lo),(bP false),(iP p)] _),
  .c (hP2:ae 315 [(ag x.hi),(bP false),(iP p)] _),.c (hH:ae 158 [(ai P1),(ai P2)] _),.c (ff:ae 313 [] _),.c (hMt:ae 314 [(ai H),(ai bt)] _),
  .c (b9 _ _ ‹_› ‹_›:ae 37 [(ag x.lo),(ag x.hi)] _),tB 74 (by simpa using h5:((aD x.lo x.hi)==0)=false),ar ((p:Int)+64) (by omega),
  .c (hM1:ae 316 [(ai x),(iP 1),(iP (((p+64):Nat):Int))] _),.c (dB _ (by omega):ae 113 [(iP 1)] _),ar ((p:Int)+64) (by omega),.c (hM2:ae 316 [(ai x),(iP 3),(iP (((p+64):Nat):Int))] _)]<|rR (ai (Iv.mk Y.lo (az 1) Y.all)) (.of_eq rfl:E.le (ai (Iv.mk Y.lo (az 1) Y.all)) (ai (Iv.mk Y.lo (az 1) Y.all)))) (by kernel_rfl)
theorem Jj(x:Iv)(p:Nat)(hx:x.Valid)(xa:x.all=false)(hp1:8<=p)(hp2:p<=512)(h1:¬100<x.lo.top)(h2:¬100<x.hi.top)(h3:eR x 64=0)(h4:¬0<=aD (bL x 64) (az 7))(P1 P2 H Y:Iv)(hY:fY Y)(hP1:ae 315 [ag x.lo,bP false,iP (p:Int)] (ai P1))(hP2:ae 315 [ag x.hi,bP false,iP (p:Int)] (ai P2))(hH:ae 158 [ai P1,ai P2] (ai H))(hMt:ae 314 [ai H,ai bt] (.aq [ai Y,bP true]))(h5:¬aD x.lo x.hi=0)(hM1:ae 316 [ai x,iP ((1:Nat):Int),iP ((p+64:Nat):Int)] (bP false))(hM2:ae 316 [ai x,iP ((3:Nat):Int),iP ((p+64:Nat):Int)] (bP true)):ae 284 [(ai x),(bP false),(iP p)] (ai (Iv.mk (az (-1)) Y.hi Y.all)):=by
 obtain⟨w1,w2⟩:=hx.ends;have h7:(az 7).Valid:=dD (by decide);have wv:(bL x 64).Valid:=ef _ (by decide) (by decide) _;exact tr true Tryz.call284 Tryz.func284 (chain [.c (fe _ (by omega) (by omega):ae 312 [(iP p)] _),.c (dc x ‹_›),tB 22 (xa:x.all=false),.c (bR _ ‹_›:ae 130 [(ag x.lo)] _),tB 28 (decide_eq_false h1),
  .c (bR _ ‹_›:ae 130 [(ag x.hi)] _),tB 33 (decide_eq_false h2),.c (fo x 64 ‹_› ‹_› (by omega) (by omega)),tB 40 (decide_eq_true h3),.c (dB _ (by omega):ae 113 [(iP 7)] _),
  .c (b9 _ _ ‹_› ‹_›:ae 37 [(ag (bL x 64)),(ag (az 7))] _),tB 47 (decide_eq_false h4),.c (hP1:ae 315 [(ag x.lo),(bP false),(iP p)] _),
  .c (hP2:ae 315 [(ag x.hi),(bP false),(iP p)] _),.c (hH:ae 158 [(ai P1),(ai P2)] _),.c (ff:ae 313 [] _),.c (hMt:ae 314 [(ai H),(ai bt)] _),
  .c (b9 _ _ ‹_› ‹_›:ae 37 [(ag x.lo),(ag x.hi)] _),tB 74 (by simpa using h5:((aD x.lo x.hi)==0)=false),ar ((p:Int)+64) (by omega),
  .c (hM1:ae 316 [(ai x),(iP 1),(iP (((p+64):Nat):Int))] _),ar ((p:Int)+64) (by omega),.c (hM2:ae 316 [(ai x),(iP 3),(iP (((p+64):Nat):Int))] _),.c (dB _ (by omega):ae 113 [(iP (-1))] _)]<|rR (ai (Iv.mk (az (-1)) Y.hi Y.all)) (.of_eq rfl:E.le (ai (Iv.mk (az (-1)) Y.hi Y.all)) (ai (Iv.mk (az (-1)) Y.hi Y.all)))) (by kernel_rfl)
theorem Jg(x:Iv)(p:Nat)(hx:x.Valid)(xa:x.all=false)(hp1:8<=p)(hp2:p<=512)(h1:¬100<x.lo.top)(h2:¬100<x.hi.top)(h3:eR x 64=0)(h4:¬0<=aD (bL x 64) (az 7))(P1 P2 H Y:Iv)(hY:fY Y)(hP1:ae 315 [ag x.lo,bP false,iP (p:Int)] (ai P1))(hP2:ae 315 [ag x.hi,bP false,iP (p:Int)] (ai P2))(hH:ae 158 [ai P1,ai P2] (ai H))(hMt:ae 314 [ai H,ai bt] (.aq [ai Y,bP true]))(h5:¬aD x.lo x.hi=0)(hM1:ae 316 [ai x,iP ((1:Nat):Int),iP ((p+64:Nat):Int)] (bP false))(hM2:ae 316 [ai x,iP ((3:Nat):Int),iP ((p+64:Nat):Int)] (bP false)):ae 284 [(ai x),(bP false),(iP p)] (ai (Iv.mk Y.lo Y.hi Y.all)):=by
 obtain⟨w1,w2⟩:=hx.ends;have h7:(az 7).Valid:=dD (by decide);have wv:(bL x 64).Valid:=ef _ (by decide) (by decide) _;exact tr true Tryz.call284 Tryz.func284 (chain [.c (fe _ (by omega) (by omega):ae 312 [(iP p)] _),.c (dc x ‹_›),tB 22 (xa:x.all=false),.c (bR _ ‹_›:ae 130 [(ag x.lo)] _),tB 28 (decide_eq_false h1),
  .c (bR _ ‹_›:ae 130 [(ag x.hi)] _),tB 33 (decide_eq_false h2),.c (fo x 64 ‹_› ‹_› (by omega) (by omega)),tB 40 (decide_eq_true h3),.c (dB _ (by omega):ae 113 [(iP 7)] _),
  .c (b9 _ _ ‹_› ‹_›:ae 37 [(ag (bL x 64)),(ag (az 7))] _),tB 47 (decide_eq_false h4),.c (hP1:ae 315 [(ag x.lo),(bP false),(iP p)] _),
  .c (hP2:ae 315 [(ag x.hi),(bP false),(iP p)] _),.c (hH:ae 158 [(ai P1),(ai P2)] _),.c (ff:ae 313 [] _),.c (hMt:ae 314 [(ai H),(ai bt)] _),
  .c (b9 _ _ ‹_› ‹_›:ae 37 [(ag x.lo),(ag x.hi)] _),tB 74 (by simpa using h5:((aD x.lo x.hi)==0)=false),ar ((p:Int)+64) (by omega),
  .c (hM1:ae 316 [(ai x),(iP 1),(iP (((p+64):Nat):Int))] _),ar ((p:Int)+64) (by omega),.c (hM2:ae 316 [(ai x),(iP 3),(iP (((p+64):Nat):Int))] _)]<|rR (ai (Iv.mk Y.lo Y.hi Y.all)) (.of_eq rfl:E.le (ai Y) (ai (Iv.mk Y.lo Y.hi Y.all)))) (by kernel_rfl)
theorem A7{x:Iv}(hx:x.Valid)(cs:Bool){p:Nat}(hp1:8<=p)(hp2:p<=512):∃ Z,Z.Valid/\ae 284 [ai x,bP cs,iP (p:Int)] (ai Z):=by
 cases xa:x.all with
 | true=>cases cs with
  | true=>exact⟨_,cC,Ja x p hx xa hp1 hp2⟩
  | false=>exact⟨_,cC,Jb x p hx xa hp1 hp2⟩
 | false =>
  by_cases h1:100<x.lo.top
  .cases cs with
   | true=>exact⟨_,gJ,Jk x p hx xa hp1 hp2 h1⟩
   | false=>exact⟨_,gJ,Jl x p hx xa hp1 hp2 h1⟩
  by_cases h2:100<x.hi.top
  .cases cs with
   | true=>exact⟨_,gJ,Jm x p hx xa hp1 hp2 h1 h2⟩
   | false=>exact⟨_,gJ,Jn x p hx xa hp1 hp2 h1 h2⟩
  by_cases h3:eR x 64=0
  rotate_left
  .cases cs with
   | true=>exact⟨_,gJ,Jo x p hx xa hp1 hp2 h1 h2 h3⟩
   | false=>exact⟨_,gJ,Jp x p hx xa hp1 hp2 h1 h2 h3⟩
  by_cases h4:0<=aD (bL x 64) (az 7)
  .cases cs with
   | true=>exact⟨_,gJ,Jq x p hx xa hp1 hp2 h1 h2 h3 h4⟩
   | false=>exact⟨_,gJ,Jr x p hx xa hp1 hp2 h1 h2 h3 h4⟩
  obtain⟨w1,w2⟩:=hx.ends;obtain⟨P1,g1,hP1⟩:=Ba w1 (by omega) cs hp1 hp2;obtain⟨P2,g2,hP2⟩:=Ba w2 (by omega) cs hp1 hp2;obtain⟨H,g3,hH⟩:=Ig g1 g2;rcases Iq g3 with⟨Y,hY,hMt⟩|hMt
  rotate_left
  .cases cs with
   | true=>exact⟨_,gJ,Je x p hx xa hp1 hp2 h1 h2 h3 h4 P1 P2 H hP1 hP2 hH hMt⟩
   | false=>exact⟨_,gJ,Jh x p hx xa hp1 hp2 h1 h2 h3 h4 P1 P2 H hP1 hP2 hH hMt⟩
  by_cases h5:aD x.lo x.hi=0
  .cases cs with
   | true=>exact⟨_,hY.v,Jc x p hx xa hp1 hp2 h1 h2 h3 h4 P1 P2 H Y hY hP1 hP2 hH hMt h5⟩
   | false=>exact⟨_,hY.v,Jd x p hx xa hp1 hp2 h1 h2 h3 h4 P1 P2 H Y hY hP1 hP2 hH hMt h5⟩
  have ya:=hY.f;have v1:(Iv.mk (az (-1)) (az 1) Y.all).Valid:=by rw[ya];exact gJ
  have v2:(Iv.mk Y.lo (az 1) Y.all).Valid:=by rw[ya];exact hY.up.v
  have v3:(Iv.mk (az (-1)) Y.hi Y.all).Valid:=by rw[ya];exact hY.dn.v
  have v4:(Iv.mk Y.lo Y.hi Y.all).Valid:=hY.v;cases cs with
  | true =>
   obtain⟨r1,m1⟩:=sD hx xa 0 (by decide) (p+64) (by omega) (by omega) (by omega);obtain⟨r2,m2⟩:=sD hx xa 2 (by decide) (p+64) (by omega) (by omega) (by omega);cases r1<;>cases r2
   .exact ⟨_,v4,Jf x p hx xa hp1 hp2 h1 h2 h3 h4 P1 P2 H Y hY hP1 hP2 hH hMt h5 m1 m2⟩
   .exact ⟨_,v3,Ji x p hx xa hp1 hp2 h1 h2 h3 h4 P1 P2 H Y hY hP1 hP2 hH hMt h5 m1 m2⟩
   .exact ⟨_,v2,Js x p hx xa hp1 hp2 h1 h2 h3 h4 P1 P2 H Y hY hP1 hP2 hH hMt h5 m1 m2⟩
   .exact ⟨_,v1,Ju x p hx xa hp1 hp2 h1 h2 h3 h4 P1 P2 H Y hY hP1 hP2 hH hMt h5 m1 m2⟩
  | false =>
   obtain⟨r1,m1⟩:=sD hx xa 1 (by decide) (p+64) (by omega) (by omega) (by omega);obtain⟨r2,m2⟩:=sD hx xa 3 (by decide) (p+64) (by omega) (by omega) (by omega);cases r1<;>cases r2
   .exact ⟨_,v4,Jg x p hx xa hp1 hp2 h1 h2 h3 h4 P1 P2 H Y hY hP1 hP2 hH hMt h5 m1 m2⟩
   .exact ⟨_,v3,Jj x p hx xa hp1 hp2 h1 h2 h3 h4 P1 P2 H Y hY hP1 hP2 hH hMt h5 m1 m2⟩
   .exact ⟨_,v2,Jt x p hx xa hp1 hp2 h1 h2 h3 h4 P1 P2 H Y hY hP1 hP2 hH hMt h5 m1 m2⟩
   .exact ⟨_,v1,Jv x p hx xa hp1 hp2 h1 h2 h3 h4 P1 P2 H Y hY hP1 hP2 hH hMt h5 m1 m2⟩
theorem J0(x Z:Iv)(p:Nat)(hZ:ae 284 [ai x,bP false,iP (p:Int)] (ai Z)):ae 244 [(ai x),(iP p)] (ai Z):=by
 exact tr true Tryz.call244 Tryz.func244 (chain [.c (hZ:ae 284 [(ai x),(bP false),(iP p)] _)] <| .nil) (by kernel_rfl)
theorem vD{x:Iv}(hx:x.Valid){p:Nat}(hp1:8<=p)(hp2:p<=512):∃ Z,Z.Valid/\ae 244 [ai x,iP (p:Int)] (ai Z):=by
 obtain⟨Z,h1,h2⟩:=A7 hx false hp1 hp2;exact⟨Z,h1,J0 x Z p h2⟩
theorem Jw(x Z:Iv)(p:Nat)(hZ:ae 284 [ai x,bP true,iP (p:Int)] (ai Z)):ae 245 [(ai x),(iP p)] (ai Z):=by
 exact tr true Tryz.call245 Tryz.func245 (chain [.c (hZ:ae 284 [(ai x),(bP true),(iP p)] _)] <| .nil) (by kernel_rfl)
theorem vy{x:Iv}(hx:x.Valid){p:Nat}(hp1:8<=p)(hp2:p<=512):∃ Z,Z.Valid/\ae 245 [ai x,iP (p:Int)] (ai Z):=by
 obtain⟨Z,h1,h2⟩:=A7 hx true hp1 hp2;exact⟨Z,h1,Jw x Z p h2⟩
open Go.RowKit Fp Pu
def cz(a b:Nat):Nat->Nat×Nat
 | 0=>(a,b)
 | k+1=>((cz a b k).2,(cz a b k).1%(cz a b k).2)
theorem wi(a b:Nat):∀ k,cz a b (k+1)=cz b (a%b) k
 | 0=>rfl
 | k+1=>by
  show((cz a b (k+1)).2,(cz a b (k+1)).1%(cz a b (k+1)).2)=_;rw[wi a b k];rfl
theorem wh(a b:Nat):∀ k,Nat.gcd (cz a b k).1 (cz a b k).2=Nat.gcd a b
 | 0=>rfl
 | k+1=>by
  show Nat.gcd (cz a b k).2 ((cz a b k).1%(cz a b k).2)=_;rw[<-wh a b k];exact(Nat.gcd_comm _ _).trans ((Nat.gcd_rec _ _).symm.trans (Nat.gcd_comm _ _))
theorem Cf:∀ (b a:Nat),∃ N,(∀ k,k<N->(cz a b k).2≠0)/\(cz a b N).2=0:=by
 intro b
 induction b using Nat.strongRecOn with
 | ind b ih =>
  intro a;by_cases h:b=0
  .exact ⟨0,fun k hk=>absurd hk (Nat.not_lt_zero k),h⟩
  .obtain ⟨N,h1,h2⟩:=ih (a%b) (Nat.mod_lt a (Nat.pos_of_ne_zero h)) b
   refine⟨N+1,fun k hk=>?_,by rw[wi];exact h2⟩;rcases k with _|k
   .exact h
   .rw [wi];exact h1 k (by omega)
def gH(n d:Int)(p:Nat):Iv:=if dm n d then ck (ev (az n) (az d) p false) (fw (az n) (az d) p false) (ev (az n) (az d) p true) (fw (az n) (az d) p true)else aj
theorem CR{d:Int}(h:d≠0):(az d).m≠0:=by
 intro q;have hq:=mK d;rw[e9,q]at hq;have e:(d:Rat)=0:=by
  rw[<-hq];split<;>simp
 rw[show(0:Rat)=((0:Int):Rat)from rfl,Rat.intCast_inj]at e;exact h e
theorem BP{a b:Dy}(b0:b.m≠0){p:Nat}(hp:1<=p)(hp2:p<=4096)(up:Bool):(ev a b p up).Valid:=by
 unfold ev;split
 .exact gL
 .exact ia _ _ _ _ _ _ hp hp2
theorem RJ(n d:Int){p:Nat}(hp:1<=p)(hp2:p<=4096):(gH n d p).Valid:=by
 unfold gH;split
 .rename_i h
  obtain⟨r1,_⟩:=yg h;have d0:(az d).m≠0:=CR (by omega);unfold ck;split
  .exact cC
  .rename_i he
   obtain⟨A,B⟩:=BL (a:=az n) d0 hp hp2;refine .inr ⟨rfl,BP d0 hp hp2 _,BP d0 hp hp2 _,?_⟩;rw[eI];exact Rat.le_trans (A.1 (by omega)).2 (B.1 (by omega)).2
 .exact cC
end Go.Proofs.YtdgnpeddgdclhaaGreatDoor
