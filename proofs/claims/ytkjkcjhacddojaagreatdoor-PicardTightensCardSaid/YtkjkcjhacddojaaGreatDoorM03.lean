/- Lemmas that the last file uses. -/
import Derived.Test.YtkjkcjhacddojaaGreatDoorM02
set_option linter.unusedSimpArgs false
set_option linter.unusedVariables false
set_option linter.defProp false
set_option maxHeartbeats 4000000
open Go.Proofs.Tryz
namespace Go.Proofs.YtkjkcjhacddojaaGreatDoor
open Go.RowKit Fp Pu
def Vy(a b:List Nat)(x:Nat):PS:=⟨67,false,[(20,.e (iP x)),(19,.e (iP a.length)),(18,.e (gY a)),(5,.own 17),(1,.e (gY b))],[(17,.row false 150 (a.length+b.length) 1 (jd (lI a b x)))]⟩
def Vz(a b:List Nat)(x:Nat)(k:Nat):PS:=⟨67,false,[(27,.e (iP k)),(26,.e (iP b.length)),(25,.e (gY b)),(8,.e (.v (.int .u64 (((nc (a.getD x 0) x b (lI a b x) k).2:Nat):Int)))),(7,.e (.v (.int .u32 (a.getD x 0:Int)))),(6,.e (iP x)),(20,.e (iP x)),(19,.e (iP a.length)),(18,.e (gY a)),(5,.own 17),(1,.e (gY b))],[(17,.row false 150 (a.length+b.length) 1 (jd ((nc (a.getD x 0) x b (lI a b x) k).1)))]⟩
theorem ahs(a b:List Nat)(ha:iD a)(hb:iD b)(h1:a.length<=3000)(h2:b.length<=3000):gW 273 [gY a,gY b] (gY (lI a b a.length)):=
 tr false call273 func273 (chain [iu ((a.length:Int)+b.length) ae,.a (ae:0<=(((a.length:Int)+b.length):Int)/\(((a.length:Int)+b.length):Int)<=(((a.length:Int)+b.length):Int)),.a (ae:((4:Nat):Int)*((a.length:Int)+b.length)<=281474976710656/\(((a.length:Int)+b.length):Int)<=9223372036854775807),.s (Sp.jy (Vy a b) 0 a.length ae (λx hx kn=>by
    have f1:=ha.getD x;have so:=FL ha hb x ae;have g1:=so.len;have g2:=(FK f1 hb so.ok (i:=x) ae b.length ae).len;have g3:=(FK f1 hb so.ok (i:=x) ae b.length ae).lt;exact iC (chain [tT 21 ((x:Int)<a.length) ae,iX ((x:Int)) (a.length) ae,.s (Sp.jy (Vz a b x) 0 b.length ae (λk hk Az=>by
    have f2:=hb.getD k;have q:=FK f1 hb so.ok (i:=x) ae k ae;have f3:=q.ok.getD (x+k);have f4:=q.lt;have f5:=q.len;have f6:=VC f1 f2;exact iC (chain [tT 28 ((k:Int)<b.length) ae,iX ((k:Int)) (b.length) ae,.o 33 (.int (pE _ ae):PV.le (.e (.v (.int .u64 (IntKind.u64.wrap (a.getD x 0:Int))))) (.e (.v (.int .u64 (a.getD x 0:Int))))),.o 35 (.int (pE _ ae):PV.le (.e (.v (.int .u64 (IntKind.u64.wrap (b.getD k 0:Int))))) (.e (.v (.int .u64 (b.getD k 0:Int))))),
     pr ((a.getD x 0:Int)*(b.getD k 0:Int)) ae,iu ((x:Int)+k) ae,iX ((((x+k):Nat):Int)) ((a.length+b.length)) ae,.a (ae:(x+k)<(a.length+b.length)),.o 43 (.int (pE _ ae):PV.le (.e (.v (.int .u64 (IntKind.u64.wrap (((((nc (a.getD x 0) x b (lI a b x) k).1).getD (x+k) 0):Nat):Int))))) (.e (.v (.int .u64 (((((nc (a.getD x 0) x b (lI a b x) k).1).getD (x+k) 0):Nat):Int))))),
     pr (((((a.getD x 0)*(b.getD k 0)):Nat):Int)+(((((nc (a.getD x 0) x b (lI a b x) k).1).getD (x+k) 0):Nat):Int)) ae,
     pr ((((((a.getD x 0)*(b.getD k 0))+(((nc (a.getD x 0) x b (lI a b x) k).1).getD (x+k) 0)):Nat):Int)+(((nc (a.getD x 0) x b (lI a b x) k).2:Nat):Int)) ae,
     iu ((x:Int)+k) ae,.o 52 (.int (uS _):PV.le (.e (.v (.int .u32 (IntKind.u32.wrap ((((((a.getD x 0)*(b.getD k 0))+(((nc (a.getD x 0) x b (lI a b x) k).1).getD (x+k) 0))+(nc (a.getD x 0) x b (lI a b x) k).2):Nat):Int))))) (.e (.v (.int .u32 (((((((a.getD x 0)*(b.getD k 0))+(((nc (a.getD x 0) x b (lI a b x) k).1).getD (x+k) 0))+(nc (a.getD x 0) x b (lI a b x) k).2)%4294967296):Nat):Int))))),.a (ae:0<=(32:Int)/\(32:Int)<=((64:Nat):Int)),.o 54 (.int (Cj _):PV.le (.e (.v (.int .u64 (((((((a.getD x 0)*(b.getD k 0))+(((nc (a.getD x 0) x b (lI a b x) k).1).getD (x+k) 0))+(nc (a.getD x 0) x b (lI a b x) k).2):Nat):Int)/2^32)))) (.e (.v (.int .u64 (((((((a.getD x 0)*(b.getD k 0))+(((nc (a.getD x 0) x b (lI a b x) k).1).getD (x+k) 0))+(nc (a.getD x 0) x b (lI a b x) k).2)/4294967296):Nat):Int))))),
     iX ((((x+k):Nat):Int)) ((a.length+b.length)) ae,.a (ae:(x+k)<(a.length+b.length)),iu ((k:Int)+1) ae]<|.e (chain [.o 8 (.int aw:PV.le (.e (.v (.int .u64 (((((((a.getD x 0)*(b.getD k 0))+(((nc (a.getD x 0) x b (lI a b x) k).1).getD (x+k) 0))+(nc (a.getD x 0) x b (lI a b x) k).2)/4294967296):Nat):Int)))) (.e (.v (.int .u64 (((nc (a.getD x 0) x b (lI a b x) (k+1)).2:Nat):Int))))),.b 17 (OG rfl ae:Bx.le (.row false 150 (a.length+b.length) 1 (λi' j'=>if i'=(x+k)/\0<=j'/\j'<0+1 then[(.v (.int .u32 (((((((a.getD x 0)*(b.getD k 0))+(((nc (a.getD x 0) x b (lI a b x) k).1).getD (x+k) 0))+(nc (a.getD x 0) x b (lI a b x) k).2)%4294967296):Nat):Int)))].getD (j'-0) .any else(jd ((nc (a.getD x 0) x b (lI a b x) k).1)) i' j')) (.row false 150 (a.length+b.length) 1 (jd ((nc (a.getD x 0) x b (lI a b x) (k+1)).1))))]<|.nil)) ah)
  (λhk=>by
    exact iC (chain [tF 28 ((b.length:Int)<b.length) ae]<|.nil) ah) ak:jv 7 f273 (Vz a b x 0) (.exit 2) ⟨67,false,[(8,.e (.v (.int .u64 (((nc (a.getD x 0) x b (lI a b x) b.length).2:Nat):Int)))),(6,.e (iP x)),(20,.e (iP x)),(19,.e (iP a.length)),(18,.e (gY a)),(5,.own 17),(1,.e (gY b))],[(17,.row false 150 (a.length+b.length) 1 (jd ((nc (a.getD x 0) x b (lI a b x) b.length).1)))]⟩) (chain [.o 8 (.int aw:PV.le (.e (.v (.int .u64 0))) (.e (.v (.int .u64 (((nc (a.getD x 0) x b (lI a b x) 0).2:Nat):Int))))),.b 17 (.iS rfl:Bx.le (.row false 150 (a.length+b.length) 1 (jd (lI a b x))) (.row false 150 (a.length+b.length) 1 (jd ((nc (a.getD x 0) x b (lI a b x) 0).1))))]<|.nil),
     iu ((x:Int)+b.length) ae,.o 63 (.int (uS _):PV.le (.e (.v (.int .u32 (IntKind.u32.wrap (((nc (a.getD x 0) x b (lI a b x) b.length).2:Nat):Int))))) (.e (.v (.int .u32 ((((nc (a.getD x 0) x b (lI a b x) b.length).2%4294967296):Nat):Int))))),
     iX ((((x+b.length):Nat):Int)) ((a.length+b.length)) ae,.a (ae:(x+b.length)<(a.length+b.length)),iu ((x:Int)+1) ae]<|.e (chain [.b 17 (OG rfl ae:Bx.le (.row false 150 (a.length+b.length) 1 (λi' j'=>if i'=(x+b.length)/\0<=j'/\j'<0+1 then[(.v (.int .u32 ((((nc (a.getD x 0) x b (lI a b x) b.length).2%4294967296):Nat):Int)))].getD (j'-0) .any else(jd ((nc (a.getD x 0) x b (lI a b x) b.length).1)) i' j')) (.row false 150 (a.length+b.length) 1 (jd (lI a b (x+1)))))]<|.nil)) ah)
  (λhx=>by
    exact iC (chain [tF 21 ((a.length:Int)<a.length) ae]<|.nil) ah) ak:jv 3 f273 (Vy a b 0) (.exit 0) ⟨67,false,[(5,.own 17)],[(17,.row false 150 (a.length+b.length) 1 (jd (lI a b a.length)))]⟩) (chain [.b 17 (Gn rfl (λi=>by simp[lI,aW,fJ];split<;>rfl):Bx.le (.row false 150 (a.length+b.length) 1 (λ_ j_=>[(.v (.int .u32 0))].getD j_ .any)) (.row false 150 (a.length+b.length) 1 (jd (lI a b 0))))]<|.nil)]<|rR (gY (lI a b a.length)) (zL (by rw[(FL ha hb a.length ae).len]):E.le (.sl false (a.length+b.length) 1 (jd (lI a b a.length))) (gY (lI a b a.length)))) ah 
theorem ND(L:List Nat)(h:L.length<=256):gW 310 [gY L] (bP false):=
 tr true call310 func310 (chain [tF 5 (256<(L.length:Int)) ae]<|.nil) ah 
theorem ahr(L:List Nat)(h1:L.length<=256):gW 271 [(.sl true 1 1 λi_ j_=>[(gY L)].getD (i_*1+j_) (.v (.bool false)))] (bP false):=
 tr true call271 func271 (chain [.c (U4 true 1 _ 310 [] (λ_=>false) (λi hi=>(match i,hi with|0,_=>ND _ h1|n+1,hi=>absurd hi ae)) ae (λ_ _=>rfl):gW 309 [(.sl true 1 1 λi_ j_=>[(gY L)].getD (i_*1+j_) (.v (.bool false))),(.fn 310 [])] _)]<|.nil) ah 
theorem VI(L:List Nat)(M:List Nat)(h1:L.length<=256)(h2:M.length<=256):gW 271 [(.sl true 2 1 λi_ j_=>[(gY L),(gY M)].getD (i_*1+j_) (.v (.bool false)))] (bP false):=
 tr true call271 func271 (chain [.c (U4 true 2 _ 310 [] (λ_=>false) (λi hi=>(match i,hi with|0,_=>ND _ h1|1,_=>ND _ h2|n+2,hi=>absurd hi ae)) ae (λ_ _=>rfl):gW 309 [(.sl true 2 1 λi_ j_=>[(gY L),(gY M)].getD (i_*1+j_) (.v (.bool false))),(.fn 310 [])] _)]<|.nil) ah 
theorem aht(L M:List Nat)(hL:iD L)(hM:iD M)(h1:L.length<=256)(h2:M.length<=256)(hf:(gV (val L*val M)).length<=256):gW 218 [gY L,gY M] (.ix [gY (gV (val L*val M)),iP 0]):=by
 have ka:=hL.il;have kb:=hM.il;have ta:=oO L;have tb:=oO M;unfold lZ at ta tb;have km:=(FL ka kb _ (aV _)).ok;have he:il (lI (il L) (il M) (il L).length)=gV (val L*val M):=by rw[qE km,amS ka kb,oG,oG]
 have hd:(il (lI (il L) (il M) (il L).length)).length<=256:=by rw[he];exact hf
 exact tr true call218 func218 (chain [.c (VI _ _ af af:gW 271 [(.sl true 2 1 λi_ j_=>[(gY L),(gY M)].getD (i_*1+j_) (.v (.bool false)))] _),.c (tS _ hL:gW 274 [(gY L)] _),.c (tS _ hM:gW 274 [(gY M)] _),.c (ahs _ _ ka kb ae ae:gW 273 [(gY (il L)),(gY (il M))] _),.c (VG _ km hd:gW 272 [(gY (lI (il L) (il M) (il L).length))] _)]<|rQ (.ix [(gY (il (lI (il L) (il M) (il L).length))),(iP 0)]) (.ix [gY (gV (val L*val M)),iP 0]) (by rw[he])) ah 
theorem zp(m n:Nat)(h1:(gV m).length<=256)(h2:(gV n).length<=256)(hf:(gV (m*n)).length<=256):gW 218 [gY (gV m),gY (gV n)] (.ix [gY (gV (m*n)),iP 0]):=by
 have:=aht (gV m) (gV n) (kE m) (kE n) h1 h2 (by rw[jC,jC];exact hf);rwa[jC,jC]at this
theorem vV(m n:Nat)(h1:(gV m).length<=256)(h2:n<=65536)(h3:(gV (m*2^n)).length<=256):gW 308 [(gY (gV m)),(iP n)] (gY (gV (m*2^n))):=
 tr true call308 func308 (chain [.c (VK _ _ ae ae ae:gW 219 [(gY (gV m)),(iP n)] _)]<|.nil) ah 
theorem Ou(m n:Nat)(h1:(gV m).length<=256)(h2:n<=65536):gW 320 [(gY (gV m)),(iP n)] (.ix [(gY (gV (m/2^n))),(bP (decide (m%2^n≠0)))]):=by
 have hb:=wq h1;have hq:(gV (m/2^n)).length<=256:=ns (by have:=tk (bD m (2^n));omega);have ux:(gV (m/2^n*2^n)).length<=256:=ns (by have:=tk (cO m (2^n));omega);have hr:(gV (m/2^ie m)).length<=256:=ns (by have:=tk (bD m (2^ie m));omega);have nE:(gV (m/2^ie m*2^ie m)).length<=256:=ns (by have:=tk (cO m (2^ie m));omega);by_cases hn:ie m<n
 .have q1:=Rv (cX hn)
  have q2:=Rv (aV (ie m));exact tr true call320 func320 (chain [.c (sC _ ae:gW 294 [(gY (gV m))] _),tT 11 ((ie m:Int)<n) ae,.c (sC _ ae:gW 294 [(gY (gV m))] _),.c (NF _ _ ae ae:gW 301 [(gY (gV m)),(iP (ie m:Int))] _),.c (vV _ _ ae ae ae:gW 308 [(gY (gV (m/2^(ie m)))),(iP (ie m:Int))] _),.c (zj _ _ ae ae:gW 220 [(gY (gV ((m/2^(ie m))*2^(ie m)))),(gY (gV m))] _)]<|rQ (.ix [(gY (gV (m/2^(ie m)))),(bP ((kf ((m/2^(ie m))*2^(ie m)) m) != 0))]) (.ix [(gY (gV (m/2^n))),(bP (decide (m%2^n≠0)))]) (by rw[Ve,q1.1,q1.2,q2.1,q2.2])) ah 
 .exact tr true call320 func320 (chain [.c (sC _ ae:gW 294 [(gY (gV m))] _),tF 11 ((ie m:Int)<n) ae,.c (NF _ _ ae ae:gW 301 [(gY (gV m)),(iP n)] _),.c (vV _ _ ae ae ae:gW 308 [(gY (gV (m/2^n))),(iP n)] _),.c (zj _ _ ae ae:gW 220 [(gY (gV ((m/2^n)*2^n))),(gY (gV m))] _)]<|rQ (.ix [(gY (gV (m/2^n))),(bP ((kf ((m/2^n)*2^n) m) != 0))]) (.ix [(gY (gV (m/2^n))),(bP (decide (m%2^n≠0)))]) (by rw[Ve])) ah 
abbrev Ph:E:=.sl false 1 1 λi_ j_=>[(.v (.int .u32 1))].getD (i_*1+j_) (.v (.bool false))
abbrev Kl(p):=gY (gV (0*2^((0-(jm 0 0 p)).toNat)))
def od(m:Nat)(e:Int)(p:Nat):Nat:=if jm m e p<=e then m*2^(e-jm m e p).toNat else m/2^(jm m e p-e).toNat
def rN(m:Nat)(e:Int)(more:Bool)(p:Nat):Bool:=if jm m e p<=e then more else(more||decide (m%2^(jm m e p-e).toNat≠0))
theorem ace(m:Nat)(e:Int)(more:Bool)(p:Nat):nL m e more p false=od m e p:=by unfold nL od;simp
theorem Lb{m:Nat}{e:Int}{more:Bool}{p:Nat}(hm:more=true->p<ie m):nL m e more p true=od m e p+if rN m e more p=true then 1 else 0:=by
 unfold nL od rN;by_cases hU:jm m e p<=e
 .have hmo:more=false:=by
   cases MD:more with
   |false=>rfl
   |true=>have:=hm MD;unfold jm at hU;omega
  simp[hU,hmo]
 .simp [hU]
theorem ajz(m:Nat)(e:Int)(more up:Bool)(p:Nat)(h1:(gV m).length<=256)(h0:m≠0)(im:8<=p)(ia:p<=512)(kT:-45000<=e)(kA:e<=45000)(hm:more=true->p<ie m):gW 323 [(.agg [(gY (gV m)),(iP e),(bP more)]),iP (p:Int),bP up] (.ix [gZ (jR false m e more p up),iP (jH false m e more p up)]):=by
 have T2:=Rg (e:=e) true h0 hm (show 1<=p by omega);have vF:=Rg (e:=e) false h0 hm (show 1<=p by omega);have hb:=wq h1;have pA:=mY h0;have hqb:=Rf (e:=e) (more:=more) (p:=p) (up:=true) h0;have hqa:=Rf (e:=e) (more:=more) (p:=p) (up:=false) h0;rw[ace]at vF hqa;have hu1:-16384<=(jm m e p):=by unfold jm;omega
 have hu2:(jm m e p)<=60000:=by unfold jm;omega
 have hu3:(jm m e p)<=max (e+8192) (-16384):=by unfold jm;omega
 have fa:(gV (od m e p)).length<=256:=ns ae;have fb:(gV (nL m e more p true)).length<=256:=ns ae;have f1:(gV 1).length<=256:=ns ag;cases up with
 |true=>
  exact tr true call323 func323 (chain [.c (sC _ ae:gW 294 [(gY (gV m))] _),iu (e+(ie m:Int)) ae,iu ((e+(ie m:Int))-(p:Int)) ae,.o 21 (.int (by unfold jm;split<;>omega):PV.le (.e (iP (if(-16384)>((e+(ie m:Int))-(p:Int))then(-16384)else((e+(ie m:Int))-(p:Int))))) (.e (iP (jm m e p)))),.j 58 ⟨84,true,[(9,.e (gY (gV (od m e p)))),(10,.e (bP (rN m e more p))),(8,.e (iP (jm m e p))),(6,.box 6 0),(1,.e (iP p)),(2,.e (bP true))],[(6,.cells 39 [(bP false),(.v (.slice none 0 0)),(iP 0)])]⟩
   (.w ((jm m e p)<=e)
    (λm1=>by
     have fx:(gV (m*2^(e-(jm m e p)).toNat)).length<=256:=by have:=fa;rwa[show od m e p=_ from aS m1]at this
     exact chain [.v 29 (.bool (aT m1)),iu (e-(jm m e p)) ae,.o 35 (.int ae:PV.le (.e (iP (e-(jm m e p)))) (.e (iP ((e-(jm m e p)).toNat:Int)))),.c (vV m ((e-(jm m e p)).toNat:Nat) ae ae ae)]<|.e (chain [.o 9 (.e (.iS (by rw[show od m e p=_ from aS m1])):PV.le (.e (gY (gV (m*2^((e-(jm m e p)).toNat))))) (.e (gY (gV (od m e p))))),tB 10 (by simp[rN,m1]:more=(rN m e more p))]<|.nil))
    (λm1=>chain [.v 29 (.bool (aU m1)),iu ((jm m e p)-e) ae,.o 43 (.int ae:PV.le (.e (iP ((jm m e p)-e))) (.e (iP (((jm m e p)-e).toNat:Int)))),.c (Ou m (((jm m e p)-e).toNat:Nat) ae ae)]<|.w (more=true)
     (λm2=>chain [tB 48 (m2)]<|.e (chain [.o 9 (.e (.iS (by rw[show od m e p=_ from aR m1])):PV.le (.e (gY (gV (m/2^(((jm m e p)-e).toNat))))) (.e (gY (gV (od m e p))))),tB 10 (by simp[rN,m1,m2]:true=(rN m e more p))]<|.nil))
     (λm2=>chain [tB 48 (aO m2)]<|.e (chain [.o 9 (.e (.iS (by rw[show od m e p=_ from aR m1])):PV.le (.e (gY (gV (m/2^(((jm m e p)-e).toNat))))) (.e (gY (gV (od m e p))))),tB 10 (by simp[rN,m1,m2]:(decide (m%2^(((jm m e p)-e).toNat)≠0))=(rN m e more p))]<|.nil)))),.j 110 ⟨84,true,[(9,.e (gY (gV (nL m e more p true)))),(8,.e (iP (jm m e p))),(6,.box 6 0),(1,.e (iP p)),(2,.e (bP true))],[(6,.cells 39 [(bP false),(.v (.slice none 0 0)),(iP 0)])]⟩
   (.w (rN m e more p=true)
    (λm1=>by
     have fx:(gV (od m e p+1)).length<=256:=by have:=fb;rwa[Lb hm,aS m1]at this
     exact chain [.v 55 (.bool (m1)),.o 58 (.e r9:PV.le (.e Ph) (.e (gY (gV 1)))),.c (Jp _ _ ae ae ae:gW 321 [(gY (gV (od m e p))),(gY (gV 1))] _)]<|.e (chain [.o 9 (.e (.iS (by rw[Lb hm,aS m1])):PV.le (.e (gY (gV ((od m e p)+1)))) (.e (gY (gV (nL m e more p true)))))]<|.nil))
    (λm1=>chain [.v 55 (.bool (aO m1))]<|.e (chain [.o 9 (.e (.iS (by rw[Lb hm,aR m1,bB])):PV.le (.e (gY (gV (od m e p)))) (.e (gY (gV (nL m e more p true)))))]<|.nil))),.c (sC _ ae:gW 294 [(gY (gV (nL m e more p true)))] _),iu ((ie (nL m e more p true):Int)+(jm m e p)) ae]<|.w (16384<((ie (nL m e more p true):Int)+(jm m e p)))
   (λk1=>by
    have w1:=(T2.resolve_left (λh=>absurd k1 ae)).2.resolve_right (λh=>absurd h.1 ag);exact chain [tB 66 (aT k1),.o 68 (.e wa:PV.le (.e (.agg [(bP false),(.v (.slice none 0 0)),(iP 0)])) (.e (gZ jA)))]<|rQ (.ix [(gZ jA),(iP 9)]) (.ix [gZ (jR false m e more p true),iP (jH false m e more p true)]) (by rw[w1.2.1,w1.2.2]))
   (λk1=>by
    have w1:=T2.resolve_right (λh=>k1 h.1);have hd:mW (canon false (nL m e more p true) (jm m e p)):=by rw[<-w1.2.1];exact(mu false m e more p true ae ae).range
    exact chain [tB 66 (aU k1),.c (Bp _ _ _ ae ae ae af:gW 362 [(bP false),(gY (gV (nL m e more p true))),(iP (jm m e p))] _)]<|rQ (.ix [(gZ (canon false (nL m e more p true) (jm m e p))),(iP 0)]) (.ix [gZ (jR false m e more p true),iP (jH false m e more p true)]) (by rw[w1.2.1,w1.2.2]))) ah 
 |false=>
  exact tr true call323 func323 (chain [.c (sC _ ae:gW 294 [(gY (gV m))] _),iu (e+(ie m:Int)) ae,iu ((e+(ie m:Int))-(p:Int)) ae,.o 21 (.int (by unfold jm;split<;>omega):PV.le (.e (iP (if(-16384)>((e+(ie m:Int))-(p:Int))then(-16384)else((e+(ie m:Int))-(p:Int))))) (.e (iP (jm m e p)))),.j 58 ⟨84,true,[(9,.e (gY (gV (od m e p)))),(10,.e (bP (rN m e more p))),(8,.e (iP (jm m e p))),(6,.box 6 0),(1,.e (iP p)),(2,.e (bP false))],[(6,.cells 39 [(bP false),(.v (.slice none 0 0)),(iP 0)])]⟩
   (.w ((jm m e p)<=e)
    (λm1=>by
     have fx:(gV (m*2^(e-(jm m e p)).toNat)).length<=256:=by have:=fa;rwa[show od m e p=_ from aS m1]at this
     exact chain [.v 29 (.bool (aT m1)),iu (e-(jm m e p)) ae,.o 35 (.int ae:PV.le (.e (iP (e-(jm m e p)))) (.e (iP ((e-(jm m e p)).toNat:Int)))),.c (vV m ((e-(jm m e p)).toNat:Nat) ae ae ae)]<|.e (chain [.o 9 (.e (.iS (by rw[show od m e p=_ from aS m1])):PV.le (.e (gY (gV (m*2^((e-(jm m e p)).toNat))))) (.e (gY (gV (od m e p))))),tB 10 (by simp[rN,m1]:more=(rN m e more p))]<|.nil))
    (λm1=>chain [.v 29 (.bool (aU m1)),iu ((jm m e p)-e) ae,.o 43 (.int ae:PV.le (.e (iP ((jm m e p)-e))) (.e (iP (((jm m e p)-e).toNat:Int)))),.c (Ou m (((jm m e p)-e).toNat:Nat) ae ae)]<|.w (more=true)
     (λm2=>chain [tB 48 (m2)]<|.e (chain [.o 9 (.e (.iS (by rw[show od m e p=_ from aR m1])):PV.le (.e (gY (gV (m/2^(((jm m e p)-e).toNat))))) (.e (gY (gV (od m e p))))),tB 10 (by simp[rN,m1,m2]:true=(rN m e more p))]<|.nil))
     (λm2=>chain [tB 48 (aO m2)]<|.e (chain [.o 9 (.e (.iS (by rw[show od m e p=_ from aR m1])):PV.le (.e (gY (gV (m/2^(((jm m e p)-e).toNat))))) (.e (gY (gV (od m e p))))),tB 10 (by simp[rN,m1,m2]:(decide (m%2^(((jm m e p)-e).toNat)≠0))=(rN m e more p))]<|.nil)))),.c (sC _ ae:gW 294 [(gY (gV (od m e p)))] _),iu ((ie (od m e p):Int)+(jm m e p)) ae]<|.w (16384<((ie (od m e p):Int)+(jm m e p)))
   (λk1=>by
    have w1:=(vF.resolve_left (λh=>absurd k1 ae)).2.resolve_left (λh=>absurd h.1 ag);have hd:mW (canon false ((1*2^p)-1) (16384-(p:Int))):=by rw[bK,<-w1.2.1];exact(mu false m e more p false ae ae).range
    have g0:ie (1*2^p)=p+1:=by rw[bK];exact u4 (aV _) (ez ag ae)
    have g1:(gV 1).length<=256:=ns ag;have g2:(gV (1*2^p)).length<=256:=ns ae;have g4:1<=1*2^p:=by rw[bK];exact aZ ag 
    have g3:(gV ((1*2^p)-1)).length<=256:=ns (by have:=tk (dm (1*2^p) 1);omega);exact chain [tB 66 (aT k1),.o 70 (.e r9:PV.le (.e Ph) (.e (gY (gV 1)))),.c (vV 1 p ae ae ae),.o 73 (.e r9:PV.le (.e Ph) (.e (gY (gV 1)))),.c (FQ _ _ ae ae ae:gW 322 [(gY (gV (1*2^p))),(gY (gV 1))] _),iu (16384-(p:Int)) ae,.c (Bp _ _ _ ae ae ae af:gW 362 [(bP false),(gY (gV ((1*2^p)-1))),(iP (16384-(p:Int)))] _)]<|rQ (.ix [(gZ (canon false ((1*2^p)-1) (16384-(p:Int)))),(iP 0)]) (.ix [gZ (jR false m e more p false),iP (jH false m e more p false)]) (by rw[w1.2.1,w1.2.2,bK]))
   (λk1=>by
    have w1:=vF.resolve_right (λh=>k1 h.1);have hd:mW (canon false (od m e p) (jm m e p)):=by rw[<-w1.2.1];exact(mu false m e more p false ae ae).range
    exact chain [tB 66 (aU k1),.c (Bp _ _ _ ae ae ae af:gW 362 [(bP false),(gY (gV (od m e p))),(iP (jm m e p))] _)]<|rQ (.ix [(gZ (canon false (od m e p) (jm m e p))),(iP 0)]) (.ix [gZ (jR false m e more p false),iP (jH false m e more p false)]) (by rw[w1.2.1,w1.2.2]))) ah 
theorem ajA(up:Bool)(p:Nat)(im:8<=p)(ia:p<=512):gW 323 [(.agg [(gY (gV 0)),(iP 0),(bP false)]),iP (p:Int),bP up] (.ix [gZ (jR false 0 0 false p up),iP (jH false 0 0 false p up)]):=by
 have hU:jm 0 0 p = -(p:Int):=by unfold jm;rw[q8];omega
 have hK:jc 0 0 p=0:=by unfold jc;rw[q8];omega
 have hQ:kH 0 0 false p up=0:=by unfold kH;rw[hK];simp
 have hO:lV 0 0 false p up=false:=by unfold lV;rw[hQ];simp
 have qL:(false != up)=up:=by cases up<;>rfl
 have k2:jR false 0 0 false p up=jA:=by unfold jR;rw[qL,hO,aR ag,hQ];rfl
 have k3:jH false 0 0 false p up=0:=by unfold jH;rw[qL,hO];rfl
 have lz:ie 0=0:=rfl;have l0:(gV 0).length<=256:=by rw[na];decide
 have l1:(gV (0*2^(0-jm 0 0 p).toNat)).length<=256:=by rw[cr];exact l0
 have lb:ie (0*2^(0-jm 0 0 p).toNat)=0:=by rw[cr];rfl
 have hd:mW (canon false (0*2^(0-jm 0 0 p).toNat) (jm 0 0 p)):=by rw[cr];exact .inl rfl
 by_cases BL:up=true
 .exact tr true call323 func323 (chain [.c (sC _ ae:gW 294 [(gY (gV 0))] _),iu (0+(ie 0:Int)) ae,iu ((0+(ie 0:Int))-(p:Int)) ae,.o 21 (.int (by unfold jm;rw[q8];split<;>omega):PV.le (.e (iP (if(-16384)>((0+(ie 0:Int))-(p:Int))then(-16384)else((0+(ie 0:Int))-(p:Int))))) (.e (iP (jm 0 0 p)))),tT 29 ((jm 0 0 p)<=0) ae,iu (0-(jm 0 0 p)) ae,.o 35 (.int ae:PV.le (.e (iP (0-(jm 0 0 p)))) (.e (iP ((0-(jm 0 0 p)).toNat:Int)))),.c (vV 0 ((0-(jm 0 0 p)).toNat:Nat) ae ae ae),tB 52 (BL:up=true),.c (sC _ ae:gW 294 [(Kl p)] _),
   iu ((ie (0*2^((0-(jm 0 0 p)).toNat)):Int)+(jm 0 0 p)) ae,tF 66 (16384<((ie (0*2^((0-(jm 0 0 p)).toNat)):Int)+(jm 0 0 p))) ae,.c (Bp _ _ _ ae ae ae af:gW 362 [(bP false),(Kl p),(iP (jm 0 0 p))] _)]<|rQ (.ix [(gZ (canon false (0*2^((0-(jm 0 0 p)).toNat)) (jm 0 0 p))),(iP 0)]) (.ix [gZ (jR false 0 0 false p up),iP (jH false 0 0 false p up)]) (by rw[k2,k3,cr];rfl)) ah 
 .exact tr true call323 func323 (chain [.c (sC _ ae:gW 294 [(gY (gV 0))] _),iu (0+(ie 0:Int)) ae,iu ((0+(ie 0:Int))-(p:Int)) ae,.o 21 (.int (by unfold jm;rw[q8];split<;>omega):PV.le (.e (iP (if(-16384)>((0+(ie 0:Int))-(p:Int))then(-16384)else((0+(ie 0:Int))-(p:Int))))) (.e (iP (jm 0 0 p)))),tT 29 ((jm 0 0 p)<=0) ae,iu (0-(jm 0 0 p)) ae,.o 35 (.int ae:PV.le (.e (iP (0-(jm 0 0 p)))) (.e (iP ((0-(jm 0 0 p)).toNat:Int)))),.c (vV 0 ((0-(jm 0 0 p)).toNat:Nat) ae ae ae),tB 52 (by simpa using BL:up=false),.c (sC _ ae:gW 294 [(Kl p)] _),
   iu ((ie (0*2^((0-(jm 0 0 p)).toNat)):Int)+(jm 0 0 p)) ae,tF 66 (16384<((ie (0*2^((0-(jm 0 0 p)).toNat)):Int)+(jm 0 0 p))) ae,.c (Bp _ _ _ ae ae ae af:gW 362 [(bP false),(Kl p),(iP (jm 0 0 p))] _)]<|rQ (.ix [(gZ (canon false (0*2^((0-(jm 0 0 p)).toNat)) (jm 0 0 p))),(iP 0)]) (.ix [gZ (jR false 0 0 false p up),iP (jH false 0 0 false p up)]) (by rw[k2,k3,cr];rfl)) ah 
theorem DT(m:Nat)(e:Int)(more up:Bool)(p:Nat)(h1:(gV m).length<=256)(h0:m≠0\/m=0/\e=0/\more=false)(im:8<=p)(ia:p<=512)(kT:-45000<=e)(kA:e<=45000)(hm:more=true->p<ie m):gW 323 [(.agg [(gY (gV m)),(iP e),(bP more)]),iP (p:Int),bP up] (.ix [gZ (jR false m e more p up),iP (jH false m e more p up)]):=by
 rcases h0 with h0|⟨rfl,rfl,rfl⟩
 .exact ajz m e more up p h1 h0 im ia kT kA hm
 .exact ajA up p im ia
def lE(p:Int):Bool:=decide (8<=p)&&decide (p<=512)
theorem pn{p:Int}:lE p=true↔8<=p/\p<=512:=by simp[lE]
theorem vH(p:Int):gW 147 [iP p] (bP (lE p)):=by
 by_cases h:8<=p
 .exact tr true call147 func147 (chain [tB 4 (aT h)]<|rQ (bP (decide (p<=512))) (bP (lE p)) (by simp[lE,h])) ah 
 .exact tr true call147 func147 (chain [tB 4 (aU h)]<|rQ (bP false) (bP (lE p)) (by simp[lE,h])) ah 
theorem Oz(p:Int):gW 135 [iP p] (bP (lE p)):=by
 by_cases h:8<=p
 .exact tr true call135 func135 (chain [tB 4 (aT h)]<|rQ (bP (decide (p<=512))) (bP (lE p)) (by simp[lE,h])) ah 
 .exact tr true call135 func135 (chain [tB 4 (aU h)]<|rQ (bP false) (bP (lE p)) (by simp[lE,h])) ah 
theorem ajC(p:Int):gW 318 [iP p] (bP (lE p)):=by
 by_cases h:8<=p
 .exact tr true call318 func318 (chain [tB 4 (aT h)]<|rQ (bP (decide (p<=512))) (bP (lE p)) (by simp[lE,h])) ah 
 .exact tr true call318 func318 (chain [tB 4 (aU h)]<|rQ (bP false) (bP (lE p)) (by simp[lE,h])) ah 
def W9(l:List Dy)(p:Nat)(i:Nat):PS:=⟨20,true,[(9,.e (iP i)),(8,.e (iP l.length)),(7,.e (nC l)),(0,.e (iP p))],[]⟩
theorem Gg(neg:Bool)(m:Nat)(e:Int)(more up:Bool)(p:Nat)(h1:(gV m).length<=256)(h0:m≠0\/m=0/\e=0/\more=false)(im:8<=p)(ia:p<=512)(kT:-45000<=e)(kA:e<=45000)(hm:more=true->p<ie m):gW 283 [(bP neg),(.agg [(gY (gV m)),(iP e),(bP more)]),(iP p),(bP up)] (.ix [gZ (jR neg m e more p up),iP (jH neg m e more p up)]):=by
 cases neg with
 |true=>
  have hs:=Rm true m e more p up;change _/\(jH false m e more p (!(up==true))=0->_->iF (jR false m e more p (!(up==true)))=_)/\((jH false m e more p (!(up==true))≠0\/_)->jR false m e more p (!(up==true))=_)at hs;have hE:jH true m e more p up=jH false m e more p (!(up==true)):=hs.1;have hv:=mu false m e more p (!(up==true)) (show 1<=p by omega) ae;by_cases hz:jH false m e more p (!(up==true))=0
  .exact tr true call283 func283 (chain [.c (DT _ _ _ _ _ ae af ae ae ae ae af:gW 323 [(.agg [(gY (gV m)),(iP e),(bP more)]),(iP p),(bP (!(up==true)))] _),tB 22 (by rw[hz];rfl:((jH false m e more p (!(up==true)))==0)=true),.c (yJ _ af:gW 166 [(gZ (jR false m e more p (!(up==true))))] _)]<|rQ (.ix [(gZ (iF (jR false m e more p (!(up==true))))),(iP (jH false m e more p (!(up==true))))]) (.ix [gZ (jR true m e more p up),iP (jH true m e more p up)]) (by rw[hs.2.1 hz rfl,hE])) ah 
  .exact tr true call283 func283 (chain [.c (DT _ _ _ _ _ ae af ae ae ae ae af:gW 323 [(.agg [(gY (gV m)),(iP e),(bP more)]),(iP p),(bP (!(up==true)))] _),tB 22 (by simpa using hz:((jH false m e more p (!(up==true)))==0)=false)]<|rQ (.ix [(gZ (jR false m e more p (!(up==true)))),(iP (jH false m e more p (!(up==true))))]) (.ix [gZ (jR true m e more p up),iP (jH true m e more p up)]) (by rw[hs.2.2 (.inl hz),hE])) ah 
 |false=>
  have hs:=Rm false m e more p up;change _/\(jH false m e more p (!(up==false))=0->_->iF (jR false m e more p (!(up==false)))=_)/\((jH false m e more p (!(up==false))≠0\/_)->jR false m e more p (!(up==false))=_)at hs;have hE:jH false m e more p up=jH false m e more p (!(up==false)):=hs.1;have hv:=mu false m e more p (!(up==false)) (show 1<=p by omega) ae;by_cases hz:jH false m e more p (!(up==false))=0
  .exact tr true call283 func283 (chain [.c (DT _ _ _ _ _ ae af ae ae ae ae af:gW 323 [(.agg [(gY (gV m)),(iP e),(bP more)]),(iP p),(bP (!(up==false)))] _),tB 22 (by rw[hz];rfl:((jH false m e more p (!(up==false)))==0)=true)]<|rQ (.ix [(gZ (jR false m e more p (!(up==false)))),(iP (jH false m e more p (!(up==false))))]) (.ix [gZ (jR false m e more p up),iP (jH false m e more p up)]) (by rw[hs.2.2 (.inr rfl),hE])) ah 
  .exact tr true call283 func283 (chain [.c (DT _ _ _ _ _ ae af ae ae ae ae af:gW 323 [(.agg [(gY (gV m)),(iP e),(bP more)]),(iP p),(bP (!(up==false)))] _),tB 22 (by simpa using hz:((jH false m e more p (!(up==false)))==0)=false)]<|rQ (.ix [(gZ (jR false m e more p (!(up==false)))),(iP (jH false m e more p (!(up==false))))]) (.ix [gZ (jR false m e more p up),iP (jH false m e more p up)]) (by rw[hs.2.2 (.inl hz),hE])) ah 
theorem ajB(d:Dy):gW 319 [(gZ d)] (.agg [(gY (gV d.m)),(iP d.e),(bP false)]):=
 tr true call319 func319 (.nil) ah 
theorem Xa(p:Nat)(l:List Dy)(hl:l.length<=1000)(hv:∀ i,i<l.length->(l.getD i jA).ic)(im:8<=p)(ia:p<=512):gW 280 [(iP p),(nC l)] (iP 0):=
 tr true call280 func280 (chain [.s (Sp.jy (W9 l p) 0 l.length ae (λi hi pN=>by
    have Ub:=hv i pN;exact iC (chain [tT 10 ((i:Int)<l.length) ae,iX ((i:Int)) (l.length) ae,.c (qu _ af:gW 92 [(gZ (l.getD i jA))] _),iu ((i:Int)+1) ae]<|.nil) ah)
  (λhi=>by
    exact iC (chain [tF 10 ((l.length:Int)<l.length) ae]<|.nil) ah) ak:jv 2 f280 (W9 l p 0) (.exit 0) ⟨20,true,[(0,.e (iP p))],[]⟩) .nil,.c (ajC _:gW 318 [(iP p)] _),tB 18 (pn.2 ⟨ae,ae⟩:(lE (p:Int))=true)]<|.nil) ah 
theorem Oq(p:Nat)(a:Dy)(ha:a.ic)(im:8<=p)(ia:p<=512):gW 280 [iP (p:Int),nC [a]] (iP 0):=
 Xa p [a] aj (λi hi=>(match i,hi with
  | 0,_=>ha
  |n+1,hi=>absurd hi aj)) im ia
theorem xi(p:Nat)(a b:Dy)(ha:a.ic)(hb:b.ic)(im:8<=p)(ia:p<=512):gW 280 [iP (p:Int),nC [a,b]] (iP 0):=
 Xa p [a,b] aj (λi hi=>(match i,hi with
  | 0,_=>ha
  | 1,_=>hb
  |n+2,hi=>absurd hi aj)) im ia
theorem JK(d:Dy)(p:Nat)(up:Bool)(hd:d.ic)(im:8<=p)(ia:p<=512):gW 281 [(gZ d),(iP p),(bP up)] (.ix [gZ (jh d p up),iP (jx d p up)]):=by
 have hl:=hd.gV;have hz:d.m≠0\/d.m=0/\d.e=0/\false=false:=by
  by_cases h:d.m=0
  .rcases hd.canon with q|q
   .exact .inr ⟨h,q.2.2,rfl⟩
   .omega
  .exact .inl h
 have xd:-45000<=d.e:=by have:=hd.exp;omega
 have ri:d.e<=45000:=by have:=hd.exp;omega
 have hm:false=true->p<ie d.m:=λh=>by cases h
 exact tr true call281 func281 (chain [.o 11 (.e (Lp _):PV.le (.e (.sl true 1 3 λi_ j_=>(jr d).getD (i_*3+j_) (.v (.bool false)))) (.e (nC [d]))),.c (Oq _ _ af ae ae:gW 280 [(iP p),(nC [d])] _),tB 14 (ag:((0:Int) != 0)=false),.c (ajB _:gW 319 [(gZ d)] _),.c (Gg _ _ _ _ _ _ ae af ae ae ae ae af:gW 283 [(bP d.neg),(.agg [(gY (gV d.m)),(iP d.e),(bP false)]),(iP p),(bP up)] _)]<|.nil) ah 
theorem CL{a b:Nat}:kf a b<0↔a<b:=by
 unfold kf;split
 .simp_all
 .split<;>simp_all
theorem JL(a b:Dy)(p:Nat)(ha:a.ic)(hb:b.ic)(a0:a.m≠0)(b0:b.m≠0)(ht:b.iw<=a.iw)(im:8<=p)(ia:p<=512):gW 282 [(gZ a),(gZ b),(iP p)] (.ix [(.agg [(gY (gV (lY a b p))),(iP (jq a b p)),(bP (nh a b p))]),bP (pq a b p)]):=by
 have sz:=J9 ha hb a0 b0 ht ia;have sp:=O5 ha hb a0 b0 ht ia;obtain⟨l1,l2,l3,l4,l5,l6,l7,l8,l9⟩:=sz;obtain⟨l10,l11,l12⟩:=sp;obtain⟨r1,r2,r3⟩:=OE a b p;have va:=ha.gV;have vb:=hb.gV;have xa:=ha.exp;have xb:=hb.exp;have ta:=Gx a0;have tb:=Gx b0;have ba:=wq va;have bb:=wq vb;have z1:(gV (a.m*2^((a.e-(jq a b p)).toNat))).length<=256:=ns (show ie (nQ a b p)<=_ by omega);have zy:(gV (mN b (jq a b p))).length<=256:=ns ae;have z3:(gV (mL a b p)).length<=256:=ns ae;have zm:(gV (lY a b p)).length<=256:=ns ae;have z5:(gV 1).length<=256:=ns ag;exact tr true call282 func282 (chain [.c (oL _ af:gW 216 [(gZ a)] _),iu ((Dy.iw a)-(p:Int)) ae,iu (((Dy.iw a)-(p:Int))-8) ae,.c (oL _ af:gW 216 [(gZ a)] _),.c (oL _ af:gW 216 [(gZ b)] _),iu ((Dy.iw a)-(Dy.iw b)) ae,.j 62 ⟨109,true,[(8,.e (iP (jq a b p))),(6,.box 6 0),(4,.box 4 0),(3,.box 3 0)],[(6,.cells 210 [(.v (.slice none 0 0)),(iP 0),(bP false)]),(4,.cells 39 (jr b)),(3,.cells 39 (jr a))]⟩
   (.w (((Dy.iw a)-(Dy.iw b))<=2)
    (λm1=>chain [.v 31 (.bool (aT m1))]<|.e (chain [.o 8 (.int (by unfold jq;rw[aS m1];split<;>split<;>omega):PV.le (.e (iP (if b.e<(if(((Dy.iw a)-(p:Int))-8)<a.e then(((Dy.iw a)-(p:Int))-8)else a.e)then b.e else(if(((Dy.iw a)-(p:Int))-8)<a.e then(((Dy.iw a)-(p:Int))-8)else a.e)))) (.e (iP (jq a b p))))]<|.nil))
    (λm1=>chain [.v 31 (.bool (aU m1))]<|.e (chain [.o 8 (.int (by unfold jq;rw[aR m1];split<;>omega):PV.le (.e (iP (if(((Dy.iw a)-(p:Int))-8)<a.e then(((Dy.iw a)-(p:Int))-8)else a.e))) (.e (iP (jq a b p))))]<|.nil))),
  iu (a.e-(jq a b p)) ae,.o 41 (.int ae:PV.le (.e (iP (a.e-(jq a b p)))) (.e (iP ((a.e-(jq a b p)).toNat:Int)))),.c (vV a.m ((a.e-(jq a b p)).toNat) ae ae ae),.j 92 ⟨109,true,[(10,.e (gY (gV (mN b (jq a b p))))),(11,.e (bP (nG b (jq a b p)))),(9,.e (gY (gV (a.m*2^((a.e-(jq a b p)).toNat))))),(8,.e (iP (jq a b p))),(6,.box 6 0),(4,.box 4 0),(3,.box 3 0)],[(6,.cells 210 [(.v (.slice none 0 0)),(iP 0),(bP false)]),(4,.cells 39 (jr b)),(3,.cells 39 (jr a))]⟩
   (.w ((jq a b p)<=b.e)
    (λm1=>by
     have z2:(gV (b.m*2^((b.e-(jq a b p)).toNat))).length<=256:=by have:=zy;rwa[show mN b (jq a b p)=_ from aS m1]at this
     exact chain [.v 46 (.bool (aT m1)),iu (b.e-(jq a b p)) ae,.o 52 (.int ae:PV.le (.e (iP (b.e-(jq a b p)))) (.e (iP ((b.e-(jq a b p)).toNat:Int)))),.c (vV b.m ((b.e-(jq a b p)).toNat) ae ae ae)]<|.e (chain [.o 10 (.e (.iS (by rw[show mN b (jq a b p)=_ from aS m1])):PV.le (.e (gY (gV (b.m*2^((b.e-(jq a b p)).toNat))))) (.e (gY (gV (mN b (jq a b p)))))),tB 11 (by simp[nG,m1]:false=(nG b (jq a b p)))]<|.nil))
    (λm1=>chain [.v 46 (.bool (aU m1)),iu ((jq a b p)-b.e) ae,.o 60 (.int ae:PV.le (.e (iP ((jq a b p)-b.e))) (.e (iP (((jq a b p)-b.e).toNat:Int)))),.c (Ou b.m (((jq a b p)-b.e).toNat) ae ae)]<|.e (chain [.o 10 (.e (.iS (by rw[show mN b (jq a b p)=_ from aR m1])):PV.le (.e (gY (gV (b.m/2^(((jq a b p)-b.e).toNat))))) (.e (gY (gV (mN b (jq a b p)))))),tB 11 (by simp[nG,m1]:(decide (b.m%2^(((jq a b p)-b.e).toNat)≠0))=(nG b (jq a b p)))]<|.nil)))]<|.w (a.neg=b.neg)
  (λk1=>by
   have eT:pq a b p=false:=by unfold pq;simp[k1]
   have eY:mL a b p=mN b (jq a b p):=by unfold mL;simp[k1]
   have eM:lY a b p=nQ a b p+mN b (jq a b p):=by unfold lY;rw[aS k1,eY]
   have eS:nh a b p=nG b (jq a b p):=by unfold nh;rw[eT];simp
   have z4:(gV ((a.m*2^((a.e-(jq a b p)).toNat))+mN b (jq a b p))).length<=256:=by have:=zm;rwa[eM]at this
   exact chain [tB 68 (aM k1),.c (Jp _ _ ae ae ae:gW 321 [(gY (gV (a.m*2^((a.e-(jq a b p)).toNat)))),(gY (gV (mN b (jq a b p))))] _)]<|rQ (.ix [(.agg [(gY (gV ((a.m*2^((a.e-(jq a b p)).toNat))+(mN b (jq a b p))))),(iP (jq a b p)),(bP (nG b (jq a b p)))]),(bP false)]) (.ix [(.agg [(gY (gV (lY a b p))),(iP (jq a b p)),(bP (nh a b p))]),bP (pq a b p)]) (by rw[eM,eS,eT];rfl))
  (λk1=>chain [tB 68 (aK k1),.j 158 ⟨109,true,[(10,.e (gY (gV (mL a b p)))),(11,.e (bP (nG b (jq a b p)))),(9,.e (gY (gV (a.m*2^((a.e-(jq a b p)).toNat))))),(8,.e (iP (jq a b p))),(6,.box 6 0)],[(6,.cells 210 [(.v (.slice none 0 0)),(iP 0),(bP false)])]⟩
   (.w (nG b (jq a b p)=true)
    (λm1=>by
     have z6:(gV ((mN b (jq a b p))+1)).length<=256:=ns (by rw[show(mN b (jq a b p))+1=mL a b p by(unfold mL;simp[k1,m1])];omega);exact chain [.v 79 (.bool (m1)),.o 82 (.e r9:PV.le (.e (.sl false 1 1 λi_ j_=>[(.v (.int .u32 1))].getD (i_*1+j_) (.v (.bool false)))) (.e (gY (gV 1)))),.c (Jp _ _ ae ae ae:gW 321 [(gY (gV (mN b (jq a b p)))),(gY (gV 1))] _)]<|.e (chain [.o 10 (.e (.iS (by unfold mL;simp[k1,m1])):PV.le (.e (gY (gV ((mN b (jq a b p))+1)))) (.e (gY (gV (mL a b p)))))]<|.nil))
    (λm1=>chain [.v 79 (.bool (aO m1))]<|.e (chain [.o 10 (.e (.iS (by unfold mL;simp[k1,m1])):PV.le (.e (gY (gV (mN b (jq a b p))))) (.e (gY (gV (mL a b p)))))]<|.nil))),.c (zj _ _ ae ae:gW 220 [(gY (gV (a.m*2^((a.e-(jq a b p)).toNat)))),(gY (gV (mL a b p)))] _)]<|.w ((kf (a.m*2^((a.e-(jq a b p)).toNat)) (mL a b p))<0)
   (λk2=>by
    have hc:nQ a b p<mL a b p:=CL.1 k2;have eT:pq a b p=true:=by unfold pq;simp[k1,hc]
    have eM:lY a b p=mL a b p-nQ a b p:=by unfold lY;rw[aR k1,aS hc]
    have eS:nh a b p=false:=by unfold nh;rw[eT];simp
    have z4:(gV (mL a b p-(a.m*2^((a.e-(jq a b p)).toNat)))).length<=256:=by have:=zm;rwa[eM]at this
    have z7:(a.m*2^((a.e-(jq a b p)).toNat))<=mL a b p:=cX hc;exact chain [tB 89 (aT k2),.c (FQ _ _ ae ae ae:gW 322 [(gY (gV (mL a b p))),(gY (gV (a.m*2^((a.e-(jq a b p)).toNat))))] _)]<|rQ (.ix [(.agg [(gY (gV ((mL a b p)-(a.m*2^((a.e-(jq a b p)).toNat))))),(iP (jq a b p)),(bP false)]),(bP true)]) (.ix [(.agg [(gY (gV (lY a b p))),(iP (jq a b p)),(bP (nh a b p))]),bP (pq a b p)]) (by rw[eM,eS,eT];rfl))
   (λk2=>by
    have hc:¬nQ a b p<mL a b p:=λh=>k2 (CL.2 h)
    have eT:pq a b p=false:=by unfold pq;simp[hc]
    have eM:lY a b p=nQ a b p-mL a b p:=by unfold lY;rw[aR k1,aR hc]
    have eS:nh a b p=nG b (jq a b p):=by unfold nh;rw[eT];simp
    have z4:(gV ((a.m*2^((a.e-(jq a b p)).toNat))-mL a b p)).length<=256:=by have:=zm;rwa[eM]at this
    have z7:mL a b p<=(a.m*2^((a.e-(jq a b p)).toNat)):=fj hc;exact chain [tB 89 (aU k2),.c (FQ _ _ ae ae ae:gW 322 [(gY (gV (a.m*2^((a.e-(jq a b p)).toNat)))),(gY (gV (mL a b p)))] _)]<|rQ (.ix [(.agg [(gY (gV ((a.m*2^((a.e-(jq a b p)).toNat))-(mL a b p)))),(iP (jq a b p)),(bP (nG b (jq a b p)))]),(bP false)]) (.ix [(.agg [(gY (gV (lY a b p))),(iP (jq a b p)),(bP (nh a b p))]),bP (pq a b p)]) (by rw[eM,eS,eT];rfl)))) ah 
theorem A4(p:Nat)(up:Bool):jh jA p up=jA/\jx jA p up=0:=by
 have hK:jc 0 0 p=0:=by unfold jc;rw[q8];omega
 have hQ:∀ o,kH 0 0 false p o=0:=by intro o;unfold kH;rw[hK];simp
 have hO:∀ o,lV 0 0 false p o=false:=by intro o;unfold lV;rw[hQ];simp
 unfold jh jx jR jH;simp only[jA,hO,hQ];exact⟨rfl,rfl⟩
theorem W5(a b:Dy)(p:Nat)(up:Bool)(ha:a.ic)(hb:b.ic)(im:8<=p)(ia:p<=512):gW 228 [(gZ a),(gZ b),(iP p),(bP up)] (.ix [gZ (jh (iJ a b) p up),iP (jx (iJ a b) p up)]):=by
 by_cases a0:a.m=0
 .have e1:iJ a b=b:=by unfold iJ;rw[aS a0]
  exact tr true call228 func228 (chain [.o 16 (.e (wE _ _):PV.le (.e (.sl true 2 3 λi_ j_=>(jr a++jr b).getD (i_*3+j_) (.v (.bool false)))) (.e (nC [a,b]))),.c (xi _ _ _ af af ae ae:gW 280 [(iP p),(nC [a,b])] _),tB 19 (ag:((0:Int) != 0)=false),tB 26 (r7 (qZ.2 a0):(((gV a.m).length:Int)==0)=true),.c (JK b p up af ae ae)]<|rQ (.ix [(gZ (jh b p up)),(iP (jx b p up))]) (.ix [gZ (jh (iJ a b) p up),iP (jx (iJ a b) p up)]) (by rw[e1])) ah 
 .by_cases b0:b.m=0
  .have e1:iJ a b=a:=by unfold iJ;rw[aR a0,aS b0]
   exact tr true call228 func228 (chain [.o 16 (.e (wE _ _):PV.le (.e (.sl true 2 3 λi_ j_=>(jr a++jr b).getD (i_*3+j_) (.v (.bool false)))) (.e (nC [a,b]))),.c (xi _ _ _ af af ae ae:gW 280 [(iP p),(nC [a,b])] _),tB 19 (ag:((0:Int) != 0)=false),tB 26 (nv (pU a0):(((gV a.m).length:Int)==0)=false),tB 37 (r7 (qZ.2 b0):(((gV b.m).length:Int)==0)=true),.c (JK a p up af ae ae)]<|rQ (.ix [(gZ (jh a p up)),(iP (jx a p up))]) (.ix [gZ (jh (iJ a b) p up),iP (jx (iJ a b) p up)]) (by rw[e1])) ah 
  .by_cases ht:a.iw<b.iw
   .have rX:a.iw<=b.iw:= ae 
    have law:=Yv (p:=p) hb ha b0 a0 up;have siz:=J9 hb ha b0 a0 rX ia;have prt:=O5 hb ha b0 a0 rX ia;obtain⟨l1,l2,_,_,_,_,_,_,_⟩:=siz;have z1:(gV (lY b a p)).length<=256:=ns ae;have sr:=prt.2.2;have y1:-45000<=jq b a p:= ae ;have y2:jq b a p<=45000:= ae ;by_cases hz:lY b a p=0
    .by_cases hl:nh b a p=true
     .have h0:lY b a p≠0:=by intro q;have:=sr hl;rw[q,q8]at this;omega
      exact absurd hz h0
     .replace hz:lY b a p=0/\nh b a p=false:=⟨hz,by simpa using hl⟩
      have y4:iJ a b=jA:=by rw[O4 a0 b0];exact law.1 hz
      exact tr true call228 func228 (chain [.o 16 (.e (wE _ _):PV.le (.e (.sl true 2 3 λi_ j_=>(jr a++jr b).getD (i_*3+j_) (.v (.bool false)))) (.e (nC [a,b]))),.c (xi _ _ _ af af ae ae:gW 280 [(iP p),(nC [a,b])] _),tB 19 (ag:((0:Int) != 0)=false),tB 26 (nv (pU a0):(((gV a.m).length:Int)==0)=false),tB 37 (nv (pU b0):(((gV b.m).length:Int)==0)=false),.c (oL _ af:gW 216 [(gZ a)] _),.c (oL _ af:gW 216 [(gZ b)] _),tB 48 (aT ht),.c (JL b a p af af af af af ae ae),tB 61 (r7 (qZ.2 hz.1):(((gV (lY b a p)).length:Int)==0)=true),tB 64 (hz.2:(nh b a p)=false),.o 67 (.e wa:PV.le (.e (.agg [(bP false),(.v (.slice none 0 0)),(iP 0)])) (.e (gZ jA)))]<|rQ (.ix [(gZ jA),(iP 0)]) (.ix [gZ (jh (iJ a b) p up),iP (jx (iJ a b) p up)]) (by rw[y4,(A4 p up).1,(A4 p up).2])) ah 
    .have h0:lY b a p≠0\/lY b a p=0/\jq b a p=0/\nh b a p=false:=.inl hz
     obtain⟨q1,q2⟩:=law.2 (λq=>hz q.1);rw[<-O4 a0 b0]at q1 q2;exact tr true call228 func228 (chain [.o 16 (.e (wE _ _):PV.le (.e (.sl true 2 3 λi_ j_=>(jr a++jr b).getD (i_*3+j_) (.v (.bool false)))) (.e (nC [a,b]))),.c (xi _ _ _ af af ae ae:gW 280 [(iP p),(nC [a,b])] _),tB 19 (ag:((0:Int) != 0)=false),tB 26 (nv (pU a0):(((gV a.m).length:Int)==0)=false),tB 37 (nv (pU b0):(((gV b.m).length:Int)==0)=false),.c (oL _ af:gW 216 [(gZ a)] _),.c (oL _ af:gW 216 [(gZ b)] _),tB 48 (aT ht),.c (JL b a p af af af af af ae ae),tB 61 (nv (pU hz):(((gV (lY b a p)).length:Int)==0)=false),.c (Gg (! (b.neg==(pq b a p))) (lY b a p) (jq b a p) (nh b a p) up p ae af ae ae ae ae af)]<|rQ (.ix [(gZ (jR (!(b.neg==(pq b a p))) (lY b a p) (jq b a p) (nh b a p) p up)),(iP (jH (!(b.neg==(pq b a p))) (lY b a p) (jq b a p) (nh b a p) p up))]) (.ix [gZ (jh (iJ a b) p up),iP (jx (iJ a b) p up)]) (by rw[<-q1,<-q2];rfl)) ah 
   .have rX:b.iw<=a.iw:= ae 
    have law:=Yv (p:=p) ha hb a0 b0 up;have siz:=J9 ha hb a0 b0 rX ia;have prt:=O5 ha hb a0 b0 rX ia;obtain⟨l1,l2,_,_,_,_,_,_,_⟩:=siz;have z1:(gV (lY a b p)).length<=256:=ns ae;have sr:=prt.2.2;have y1:-45000<=jq a b p:= ae ;have y2:jq a b p<=45000:= ae ;by_cases hz:lY a b p=0
    .by_cases hl:nh a b p=true
     .have h0:lY a b p≠0:=by intro q;have:=sr hl;rw[q,q8]at this;omega
      exact absurd hz h0
     .replace hz:lY a b p=0/\nh a b p=false:=⟨hz,by simpa using hl⟩
      have y4:iJ a b=jA:=by exact law.1 hz
      exact tr true call228 func228 (chain [.o 16 (.e (wE _ _):PV.le (.e (.sl true 2 3 λi_ j_=>(jr a++jr b).getD (i_*3+j_) (.v (.bool false)))) (.e (nC [a,b]))),.c (xi _ _ _ af af ae ae:gW 280 [(iP p),(nC [a,b])] _),tB 19 (ag:((0:Int) != 0)=false),tB 26 (nv (pU a0):(((gV a.m).length:Int)==0)=false),tB 37 (nv (pU b0):(((gV b.m).length:Int)==0)=false),.c (oL _ af:gW 216 [(gZ a)] _),.c (oL _ af:gW 216 [(gZ b)] _),tB 48 (aU ht),.c (JL a b p af af af af af ae ae),tB 61 (r7 (qZ.2 hz.1):(((gV (lY a b p)).length:Int)==0)=true),tB 64 (hz.2:(nh a b p)=false),.o 67 (.e wa:PV.le (.e (.agg [(bP false),(.v (.slice none 0 0)),(iP 0)])) (.e (gZ jA)))]<|rQ (.ix [(gZ jA),(iP 0)]) (.ix [gZ (jh (iJ a b) p up),iP (jx (iJ a b) p up)]) (by rw[y4,(A4 p up).1,(A4 p up).2])) ah 
    .have h0:lY a b p≠0\/lY a b p=0/\jq a b p=0/\nh a b p=false:=.inl hz
     obtain⟨q1,q2⟩:=law.2 (λq=>hz q.1);exact tr true call228 func228 (chain [.o 16 (.e (wE _ _):PV.le (.e (.sl true 2 3 λi_ j_=>(jr a++jr b).getD (i_*3+j_) (.v (.bool false)))) (.e (nC [a,b]))),.c (xi _ _ _ af af ae ae:gW 280 [(iP p),(nC [a,b])] _),tB 19 (ag:((0:Int) != 0)=false),tB 26 (nv (pU a0):(((gV a.m).length:Int)==0)=false),tB 37 (nv (pU b0):(((gV b.m).length:Int)==0)=false),.c (oL _ af:gW 216 [(gZ a)] _),.c (oL _ af:gW 216 [(gZ b)] _),tB 48 (aU ht),.c (JL a b p af af af af af ae ae),tB 61 (nv (pU hz):(((gV (lY a b p)).length:Int)==0)=false),.c (Gg (! (a.neg==(pq a b p))) (lY a b p) (jq a b p) (nh a b p) up p ae af ae ae ae ae af)]<|rQ (.ix [(gZ (jR (!(a.neg==(pq a b p))) (lY a b p) (jq a b p) (nh a b p) p up)),(iP (jH (!(a.neg==(pq a b p))) (lY a b p) (jq a b p) (nh a b p) p up))]) (.ix [gZ (jh (iJ a b) p up),iP (jx (iJ a b) p up)]) (by rw[<-q1,<-q2];rfl)) ah 
theorem Xb(a b:Dy)(p:Nat)(up:Bool)(ha:a.ic)(hb:b.ic)(im:8<=p)(ia:p<=512):gW 264 [(gZ a),(gZ b),(iP p),(bP up)] (.ix [gZ (jh (my a b) p up),iP (jx (my a b) p up)]):=by
 by_cases a0:a.m=0
 .have e1:my a b=jA:=by unfold my;rw[a0,cr];rfl
  exact tr true call264 func264 (chain [.o 16 (.e (wE _ _):PV.le (.e (.sl true 2 3 λi_ j_=>(jr a++jr b).getD (i_*3+j_) (.v (.bool false)))) (.e (nC [a,b]))),.c (xi _ _ _ af af ae ae:gW 280 [(iP p),(nC [a,b])] _),tB 19 (ag:((0:Int) != 0)=false),tB 25 (r7 (qZ.2 a0):(((gV a.m).length:Int)==0)=true),.o 32 (.e wa:PV.le (.e (.agg [(bP false),(.v (.slice none 0 0)),(iP 0)])) (.e (gZ jA)))]<|rQ (.ix [(gZ jA),(iP 0)]) (.ix [gZ (jh (my a b) p up),iP (jx (my a b) p up)]) (by rw[e1,(A4 p up).1,(A4 p up).2])) ah 
 .by_cases b0:b.m=0
  .have e1:my a b=jA:=by unfold my;rw[b0,cv];rfl
   exact tr true call264 func264 (chain [.o 16 (.e (wE _ _):PV.le (.e (.sl true 2 3 λi_ j_=>(jr a++jr b).getD (i_*3+j_) (.v (.bool false)))) (.e (nC [a,b]))),.c (xi _ _ _ af af ae ae:gW 280 [(iP p),(nC [a,b])] _),tB 19 (ag:((0:Int) != 0)=false),tB 25 (nv (pU a0):(((gV a.m).length:Int)==0)=false),tB 30 (r7 (qZ.2 b0):(((gV b.m).length:Int)==0)=true),.o 32 (.e wa:PV.le (.e (.agg [(bP false),(.v (.slice none 0 0)),(iP 0)])) (.e (gZ jA)))]<|rQ (.ix [(gZ jA),(iP 0)]) (.ix [gZ (jh (my a b) p up),iP (jx (my a b) p up)]) (by rw[e1,(A4 p up).1,(A4 p up).2])) ah 
  .have va:=ha.gV
   have vb:=hb.gV;have xa:=ha.exp;have xb:=hb.exp;have ra:=ha.range.resolve_left a0;have rb:=hb.range.resolve_left b0;have bm:=aaT a.m b.m;have z1:(gV (a.m*b.m)).length<=256:=ns ae;have m0:a.m*b.m≠0:=du a0 b0;have h0:a.m*b.m≠0\/a.m*b.m=0/\a.e+b.e=0/\false=false:=.inl m0;have hm:false=true->p<ie (a.m*b.m):=λh=>by cases h
   obtain⟨q1,q2⟩:=Xz (a.neg != b.neg) up (a.m*b.m) (a.e+b.e) p m0;change jh (my a b) p up=_ at q1;change jx (my a b) p up=_ at q2;exact tr true call264 func264 (chain [.o 16 (.e (wE _ _):PV.le (.e (.sl true 2 3 λi_ j_=>(jr a++jr b).getD (i_*3+j_) (.v (.bool false)))) (.e (nC [a,b]))),.c (xi _ _ _ af af ae ae:gW 280 [(iP p),(nC [a,b])] _),tB 19 (ag:((0:Int) != 0)=false),tB 25 (nv (pU a0):(((gV a.m).length:Int)==0)=false),tB 30 (nv (pU b0):(((gV b.m).length:Int)==0)=false),.c (zp _ _ ae ae ae:gW 218 [(gY (gV a.m)),(gY (gV b.m))] _),iu (a.e+b.e) ae,.c (Gg (! (a.neg==b.neg)) (a.m*b.m) (a.e+b.e) false up p ae af ae ae ae ae af)]<|rQ (.ix [(gZ (jR (!(a.neg==b.neg)) (a.m*b.m) (a.e+b.e) false p up)),(iP (jH (!(a.neg==b.neg)) (a.m*b.m) (a.e+b.e) false p up))]) (.ix [gZ (jh (my a b) p up),iP (jx (my a b) p up)]) (by rw[q1,q2];rfl)) ah 
theorem ajy(a b:Dy)(p:Nat)(ha:a.ic)(hb:b.ic)(im:8<=p)(ia:p<=512):gW 149 [(gZ a),(gZ b),(iP p)] (.ix [gZ (jh (iJ a b) p false),iP (jx (iJ a b) p false)]):=
 tr true call149 func149 (chain [.c (W5 _ _ _ _ af af ae ae:gW 228 [(gZ a),(gZ b),(iP p),(bP false)] _)]<|.nil) ah 
theorem W4(a b:Dy)(p:Nat)(ha:a.ic)(hb:b.ic)(im:8<=p)(ia:p<=512):gW 150 [(gZ a),(gZ b),(iP p)] (.ix [gZ (jh (iJ a b) p true),iP (jx (iJ a b) p true)]):=
 tr true call150 func150 (chain [.c (W5 _ _ _ _ af af ae ae:gW 228 [(gZ a),(gZ b),(iP p),(bP true)] _)]<|.nil) ah 
theorem JI(a b:Dy)(p:Nat)(ha:a.ic)(hb:b.ic)(im:8<=p)(ia:p<=512):gW 189 [(gZ a),(gZ b),(iP p)] (.ix [gZ (jh (my a b) p false),iP (jx (my a b) p false)]):=
 tr true call189 func189 (chain [.c (Xb _ _ _ _ af af ae ae:gW 264 [(gZ a),(gZ b),(iP p),(bP false)] _)]<|.nil) ah 
theorem JJ(a b:Dy)(p:Nat)(ha:a.ic)(hb:b.ic)(im:8<=p)(ia:p<=512):gW 190 [(gZ a),(gZ b),(iP p)] (.ix [gZ (jh (my a b) p true),iP (jx (my a b) p true)]):=
 tr true call190 func190 (chain [.c (Xb _ _ _ _ af af ae ae:gW 264 [(gZ a),(gZ b),(iP p),(bP true)] _)]<|.nil) ah 
end Go.Proofs.YtkjkcjhacddojaaGreatDoor
namespace Go.Proofs.YtkjkcjhacddojaaGreatDoor.Fp
theorem agB{U V P q:Nat}(hP:0<P)(hV:9223372036854775808<=V/P)(hUV:U<4294967296*V)(h1:q<=4294967295)(h2:q<=U/P/(V/P))(h3:q=4294967295\/U/P/(V/P)<=q):
 U/V<=q/\q<=U/V+1:=by
 have Ma:0<V/P:= ae ;have wJ:0<V:=by
  apply bG;intro h;have:V=0:= ae ;rw[this,fN]at Ma;omega
 have hVm:=bY V P;have hVr:=bh V hP;have hUm:=bY U P;have hUr:=bh U hP;constructor
 .
  rcases h3 with h3|h3
  .have:U/V<4294967296:=by rw[bS wJ];exact hUV
   omega
  .refine aY ?_ h3
   rw[cM Ma,cM hP,bd];have h4:V/P*P<=V:=cO V P;exact aY (cg _ h4) (cO U V)
 .
  have h4:q*(V/P)<=U/P:=(cM Ma).1 h2;have h5:q*V<=q*(V/P)*P+q*P:=by
   have:V<=V/P*P+P:=by rw[bc];omega
   have:=cg q this;rw[bt,<-bd]at this;exact this
  have h6:q*(V/P)*P<=U:=aY (bE P h4) (cO U P);have h7:(q+1)*P<=V/P*P:=bE P ae;have h8:V/P*P<=V:=cO V P;have h9:q*V<U+V:=by
   rw[bL,bK]at h7;omega
  apply bG;intro h;have wH:(U/V+2)*V<=q*V:=bE V ae;have xC:=bY U V;have h12:=bh U wJ;rw[bL,bc (U/V)]at wH;omega
theorem acj{x v w third q rest:Nat}(hx:q*v+rest=x)(hq:q<=4294967295)(hw:w<4294967296)(hv:0<v)
 (h:4294967296<=rest\/q*w<=rest*4294967296+third):q<=(x*4294967296+third)/(v*4294967296+w):=by
 rw[cM ae,bt,<-hx];have e:q*(v*4294967296)=q*v*4294967296:=by rw[bd]
 rw[e,bL];rcases h with h|h
 .have h1:q*w<=4294967295*4294967295:=cL hq ae 
  omega
 .omega
theorem Rr{x v w third q rest:Nat}(hx:q*v+rest=x)(hv:0<v)(h:rest*4294967296+third<q*w):
 (x*4294967296+third)/(v*4294967296+w)<=q-1/\0<q/\(q-1)*v+(rest+v)=x:=by
 have hq:0<q:=by
  apply bG;intro h';have:q=0:= ae ;subst this;rw[cr]at h;omega
 obtain⟨r,rfl⟩:∃ r,q=r+1:=⟨q-1,ae⟩
 refine⟨?_,hq,?_⟩
 .have e1:(r+1)*(v*4294967296+w)=(r+1)*v*4294967296+(r+1)*w:=by rw[bt,<-bd]
  have e2:((r+1)*v+rest)*4294967296=(r+1)*v*4294967296+rest*4294967296:=bL _ _ _;have:(x*4294967296+third)/(v*4294967296+w)<r+1:=by
   have hd:0<v*4294967296+w:= ae ;have e4:x*4294967296=(r+1)*v*4294967296+rest*4294967296:=hx▸e2;refine(bS hd).2 ?_;rw[e1,e4];clear e1 e2 e4 hd hx hq;generalize (r+1)*v=a at *
   generalize (r+1)*w=z at *
   exact Nat.add_lt_add_left h _|>λh=>by rw[<-cF]at h;exact h
  omega
 .have e3:(r+1)*v=r*v+v:=gE r v
  rw[dI];rw[e3]at hx;clear e3 h hq;generalize r*v=a at *
  omega
theorem acm{x v w third:Nat}(hv:0<v)(ht:third<4294967296):(x*4294967296+third)/(v*4294967296+w)<=x/v:=by
 have h1:(x*4294967296+third)/(v*4294967296+w)<=(x*4294967296+third)/(v*4294967296):=gF ae ae;refine aY h1 ?_;rw[bc v,<-cA];have:(x*4294967296+third)/4294967296=x:= ae ;rw[this];exact aV _
structure xt(O0:List Nat)(j q:Nat)(V:List Nat)(k:Nat)(O:List Nat)(c b:Nat):Prop where
 len:O.length=O0.length
 ok:iD O
 vl:val O+q*(4294967296^j*val (V.take k))=val O0+4294967296^(j+k)*(c+b)
 qn:∀ i,j+k<=i->O.getD i 0=O0.getD i 0
 QO:c<4294967296
 Qs:b<=1
theorem xt.start{O0:List Nat}(h:iD O0)(j q:Nat)(V:List Nat):xt O0 j q V 0 O0 0 0:=
 ⟨rfl,h,by simp[val],λ_ _=>rfl,ag,ag⟩
theorem al1{q y c b u:Nat}(hq:q<=4294967295)(hy:y<4294967296)(hc:c<4294967296)(hb:b<=1)(hu:u<4294967296):
 q*y+c<18446744073709551616/\(q*y+c)/4294967296<4294967296 /\
 ((u+18446744073709551616-(q*y+c)%4294967296-b)%18446744073709551616)/9223372036854775808<=1 /\
 ((u+18446744073709551616-(q*y+c)%4294967296-b)%18446744073709551616)%4294967296+(q*y+c)%4294967296+b =
  u+4294967296*(((u+18446744073709551616-(q*y+c)%4294967296-b)%18446744073709551616)/9223372036854775808):=by
 have h1:q*y<=4294967295*4294967295:=cL hq ae;generalize q*y=z at *
 omega
theorem xt.step{O0 V O:List Nat}{j q k c b:Nat}(h:xt O0 j q V k O c b){u' b':Nat}(hk:k<V.length)(hj:j+V.length<O0.length)(hu:u'<4294967296)(hc:(q*V.getD k 0+c)/4294967296<4294967296)(hb:b'<=1)
 (hd:u'+(q*V.getD k 0+c)%4294967296+b=O.getD (j+k) 0+4294967296*b'):
 xt O0 j q V (k+1) (O.set (j+k) u') ((q*V.getD k 0+c)/4294967296) b':=by
 have pY:j+k<O.length:=by rw[h.len];omega
 refine⟨by rw[cw];exact h.len,h.ok.set _ hu,?_,λi hi=>?_,hc,hb⟩
 .have e:=dt (q*V.getD k 0+c) 4294967296
  have h1:=yi (x:=u') pY;have h2:=h.vl;have h3:u'+(q*V.getD k 0+c)+b=O.getD (j+k) 0+4294967296*((q*V.getD k 0+c)/4294967296+b'):= ae ;have h4:=congrArg (4294967296^(j+k) * ·) h3;simp only[bt]at h4;rw[uW,bt (4294967296^j),bt q,<-bd (4294967296^j),<-aX,show q*(4294967296^(j+k)*V.getD k 0)=4294967296^(j+k)*(q*V.getD k 0)from cE _ _ _,
   show j+(k+1)=j+k+1 from rfl,a6,bd,bt 4294967296,bt (4294967296^(j+k))]
  rw[bt]at h2;omega
 .rw [vk ae];exact h.qn i ae 
theorem xt.No{O0 V O:List Nat}{j q c b:Nat}(h:xt O0 j q V V.length O c b)(hj:j+V.length<O0.length){t:Nat}
 (ht:t=(O.getD (j+V.length) 0+18446744073709551616-c-b)%18446744073709551616):
 (O.set (j+V.length) (t%4294967296)).length=O0.length/\iD (O.set (j+V.length) (t%4294967296))/\t/9223372036854775808<=1 /\
 val (O.set (j+V.length) (t%4294967296))+q*(4294967296^j*val V)=val O0+4294967296^(j+V.length+1)*(t/9223372036854775808) /\
 ∀ i,j+V.length<i->(O.set (j+V.length) (t%4294967296)).getD i 0=O0.getD i 0:=by
 have pY:j+V.length<O.length:=by rw[h.len];omega
 have hc:=h.QO;have hb:=h.Qs;have hu:=h.ok.getD (j+V.length);have hd:t%4294967296+c+b=O.getD (j+V.length) 0+4294967296*(t/9223372036854775808):= ae ;refine⟨by rw[cw];exact h.len,h.ok.set _ (bh _ ag),ae,?_,λi hi=>by rw[vk ae];exact h.qn i ae⟩;have h1:=yi (x:=t%4294967296) pY;have h2:=h.vl;rw[fh]at h2;have h4:=congrArg (4294967296^(j+V.length) * ·) hd;simp only[bt]at h4;rw[a6,bd];rw[bt]at h2;omega
structure xr(O0:List Nat)(j:Nat)(V:List Nat)(k:Nat)(O:List Nat)(c:Nat):Prop where
 len:O.length=O0.length
 ok:iD O
 vl:val O+4294967296^(j+k)*c=val O0+4294967296^j*val (V.take k)
 qn:∀ i,j+k<=i->O.getD i 0=O0.getD i 0
 KZ:c<=1
theorem xr.start{O0:List Nat}(h:iD O0)(j:Nat)(V:List Nat):xr O0 j V 0 O0 0:=
 ⟨rfl,h,by simp[val],λ_ _=>rfl,ag⟩
theorem xr.step{O0 V O:List Nat}{j k c:Nat}(h:xr O0 j V k O c)(hV:iD V)(hk:k<V.length)(hj:j+V.length<O0.length):
 xr O0 j V (k+1) (O.set (j+k) ((O.getD (j+k) 0+V.getD k 0+c)%4294967296)) ((O.getD (j+k) 0+V.getD k 0+c)/4294967296):=by
 have pY:j+k<O.length:=by rw[h.len];omega
 have hu:=h.ok.getD (j+k);have hy:=hV.getD k;have hc:=h.KZ;refine⟨by rw[cw];exact h.len,h.ok.set _ (bh _ ag),?_,λi hi=>by rw[vk ae];exact h.qn i ae,ae⟩;have h1:=yi (x:=(O.getD (j+k) 0+V.getD k 0+c)%4294967296) pY;have h2:=h.vl;have h4:=congrArg (4294967296^(j+k) * ·) (dt (O.getD (j+k) 0+V.getD k 0+c) 4294967296);simp only[bt]at h4;rw[uW,bt (4294967296^j),<-bd (4294967296^j),<-aX,show j+(k+1)=j+k+1 from rfl,a6,bd];omega
theorem xr.No{O0 V O:List Nat}{j c:Nat}(h:xr O0 j V V.length O c)(hj:j+V.length<O0.length):
 (O.set (j+V.length) ((O.getD (j+V.length) 0+c)%4294967296)).length=O0.length/\iD (O.set (j+V.length) ((O.getD (j+V.length) 0+c)%4294967296)) /\
 (∃ κ,κ<=1/\val (O.set (j+V.length) ((O.getD (j+V.length) 0+c)%4294967296))+4294967296^(j+V.length+1)*κ=val O0+4294967296^j*val V) /\
 ∀ i,j+V.length<i->(O.set (j+V.length) ((O.getD (j+V.length) 0+c)%4294967296)).getD i 0=O0.getD i 0:=by
 have pY:j+V.length<O.length:=by rw[h.len];omega
 have hu:=h.ok.getD (j+V.length);have hc:=h.KZ;refine⟨by rw[cw];exact h.len,h.ok.set _ (bh _ ag),⟨(O.getD (j+V.length) 0+c)/4294967296,ae,?_⟩,λi hi=>by rw[vk ae];exact h.qn i ae⟩;have h1:=yi (x:=(O.getD (j+V.length) 0+c)%4294967296) pY;have h2:=h.vl;rw[fh]at h2;have h4:=congrArg (4294967296^(j+V.length) * ·) (dt (O.getD (j+V.length) 0+c) 4294967296);simp only[bt]at h4;rw[a6,bd];omega
theorem Kn{O:List Nat}(h:iD O){k:Nat}(hz:∀ i,k<=i->O.getD i 0=0):val O<4294967296^k:=by
 by_cases hk:O.length<=k
 .exact bF (mh h) (bj ag hk)
 .rw [Ec O k ae]
  have:val (O.drop k)=0:=by
   rw[GB];intro x hx;obtain⟨i,hi⟩:=dg.1 hx;rw[et]at hi;have:=hz (k+i) ae;rw[aW,hi]at this;exact this
  rw[this,cv,bB];have h1:=mh (h.take k);rw[b8,cT ae]at h1;exact h1
theorem amr{O:List Nat}(h:iD O){k:Nat}(hv:val O<4294967296^k){i:Nat}(hi:k<=i):O.getD i 0=0:=by
 have h1:val (O.drop k)=0:=by rw[GA h,bW hv]
 rw[GB]at h1;rw[aW];cases hg:O[i]? with
 |none=>rfl
 |some x=>exact h1 x (dg.2 ⟨i-k,by rw[et,show k+(i-k)=i by omega];exact hg⟩)
theorem Rs{u u' V P x:Nat}(hP:0<P)(hV:0<V)(h:u'+x*(P*V)=u)(hx:u/P/V<=x):x=u/P/V/\u'<V*P:=by
 have h1:x*V<=u/P:=by
  rw[cM hP,bd,bc V P];omega
 have h2:x<=u/P/V:=(cM hV).2 h1;have h3:x=u/P/V:= ae ;refine⟨h3,?_⟩;have e1:=bY u P;have e2:=bh u hP;have e3:=bY (u/P) V;have e4:=bh (u/P) hV;rw[<-h3]at e3;have e5:P*(u/P)=x*(P*V)+P*(u/P%V):=by
  rw[<-e3,bt,e3,bc V x,cE]
 have e6:P*(u/P%V)+P<=V*P:=by
  rw[bc V P,<-Nat.mul_succ];exact cg P e4
 omega
theorem ack{u u' u'' V P R x κ:Nat}(hP:0<P)(hV:0<V)(h:u'+x*(P*V)=u+R)(h':u'<R)(hx:x<=u/P/V+1)
 (hk:κ<=1) (h2:u''+R*κ=u'+P*V) (h3:u''<R):0<x/\x-1=u/P/V/\u''+(x-1)*(P*V)=u/\u''<V*P:=by
 have mw:u/P<x*V:=by
  rw[bS hP,bd,bc V P];omega
 have xd:u/P/V<x:=by rw[bS hV];exact mw
 have ri:x=u/P/V+1:=Nat.le_antisymm hx xd;obtain⟨y,hy⟩:∃ y,y=u/P/V:=⟨_,rfl⟩
 rw[<-hy]at ri;subst ri;rw[dI];have e0:(y+1)*(P*V)=y*(P*V)+P*V:=gE _ _;have e1:y*(P*V)<=u:=by
  have:y*V<=u/P:=by rw[hy];exact cO _ _
  have:=(cM hP).1 this;rw[bd,bc V P]at this;exact this
 have hκ:κ=1:=by
  apply bG;intro q;obtain rfl:κ=0:= ae ;omega
 subst hκ;have e2:u''+y*(P*V)=u:= ae ;exact⟨ae,hy,e2,(Rs hP hV e2 ae).2⟩
def sO(q rest third v w x:Nat):Prop:=rest+x*v<4294967296/\(rest+x*v)*4294967296+third<(q-x)*w
theorem Rp{X q rest third v w:Nat}(hx:q*v+rest=X)(hq:q<=4294967295)(hv:2147483648<=v)(hw:w<4294967296):
 ∃ N,N<=2/\N<=q/\(∀ x,x<N->sO q rest third v w x)/\¬sO q rest third v w N/\q-N<=(X*4294967296+third)/(v*4294967296+w)/\(N=0\/(X*4294967296+third)/(v*4294967296+w)<=q-N):=by
 have stop:∀ {q' r':Nat},q'*v+r'=X->q'<=4294967295->¬(r'<4294967296/\r'*4294967296+third<q'*w)->q'<=(X*4294967296+third)/(v*4294967296+w):=fun {q' r'} h1 h2 h3=>
  acj h1 h2 hw ae (by
   by_cases hr:4294967296<=r'
   .exact .inl hr
   .refine .inr (fj λhn=>h3 ⟨gG hr,hn⟩))
 by_cases h0:sO q rest third v w 0
 .have g0:=h0
  unfold sO at g0;rw[cr,bB,dj]at g0;obtain⟨k1,k2,k3⟩:=Rr hx ae g0.2;by_cases h1:sO q rest third v w 1
  .have g1:=h1
   unfold sO at g1;rw[bK]at g1;obtain⟨l1,l2,l3⟩:=Rr k3 ae g1.2;have h2:¬sO q rest third v w 2:=λh=>by unfold sO at h;omega
   refine⟨2,aV _,ae,λx hx=>?_,h2,?_,.inr l1⟩
   .obtain rfl|rfl:x=0\/x=1:= ae 
    .exact h0
    .exact h1
   .refine stop (r':=rest+v+v) l3 ae λh=> ae 
  .refine ⟨1,ag,k2,λx hx=>?_,h1,?_,.inr k1⟩
   .obtain rfl:x=0:= ae 
    exact h0
   .unfold sO at h1
    rw[bK]at h1;exact stop k3 ae h1
 .refine ⟨0,ag,bN _,λx hx=>absurd hx (bk x),h0,?_,.inl rfl⟩
  unfold sO at h0;rw[cr,bB,dj]at h0;exact stop hx hq h0
theorem acv{a b s q r:Nat}(hb:0<b)(h:r+b*2^s*q=a*2^s)(hr:r<b*2^s):q=a/b/\r=a%b*2^s:=by
 have hp:0<2^s:=aZ ag;have h1:r%2^s=0:=by
  have:=congrArg (· % 2^s) h;simp only[eJ]at this;rw[bd,cE,dV]at this;exact this
 obtain⟨t,ht⟩:∃ t,r=t*2^s:=⟨r/2^s,by rw[Nat.div_mul_cancel (Nat.dvd_of_mod_eq_zero h1)]⟩
 subst ht;have h2:(t+b*q)*2^s=a*2^s:=by rw[bL,<-h,fB]
 have h3:=aoe hp h2;have h4:t<b:=aof hr;constructor
 .rw [<-h3,eF _ _ hb,bW h4,bX]
 .rw [<-h3,dV,bC h4]
theorem YM{O:List Nat}(h:iD O){j n:Nat}(hn:2<=n)(hz:∀ i,j+n<i->O.getD i 0=0):
 val O/4294967296^j/4294967296^(n-2)=(O.getD (j+n) 0*4294967296+O.getD (j+n-1) 0)*4294967296+O.getD (j+n-2) 0:=by
 rw[cA,<-aX,<-GA h];have e:∀ (l:List Nat),iD l->(∀ i,2<i->l.getD i 0=0)->val l=(l.getD 2 0*4294967296+l.getD 1 0)*4294967296+l.getD 0 0:=by
  intro l hl hz;rcases l with _|⟨a,_|⟨b,_|⟨c,l⟩⟩⟩
  .rfl
  .simp [val]
  .simp [val];omega
  .have:val l=0:=by
    rw[GB];intro x hx;obtain⟨i,hi⟩:=dg.1 hx;have:=hz (i+3) ae;rw[aW]at this;simp only[an6,hi]at this;exact this
   simp[val,this];omega
 have g:∀ i,(O.drop (j+(n-2))).getD i 0=O.getD (j+(n-2)+i) 0:=λi=>by
  rw[aW,et,aW]
 rw[e _ (h.drop _) (λi hi=>by rw[g];exact hz _ ae),g,g,g];rw[show j+(n-2)+2=j+n by omega,show j+(n-2)+1=j+n-1 by omega,show j+(n-2)+0=j+n-2 by omega]
theorem amp{V:List Nat}(h:iD V){n:Nat}(hn:2<=n)(hl:V.length=n):val V/4294967296^(n-2)=V.getD (n-1) 0*4294967296+V.getD (n-2) 0:=by
 have:=YM (O:=V) h (j:=0) (n:=n) hn (λi hi=>by rw[aW,bT ae];rfl);rw[bO,dG,bX]at this;rw[this,show V.getD n 0=0 by rw[aW,bT ae];rfl];omega
end Go.Proofs.YtkjkcjhacddojaaGreatDoor.Fp
namespace Go.Proofs.YtkjkcjhacddojaaGreatDoor
open Go.RowKit Fp
def Rx(w:World)(b:Nat)(L:List Nat)(R:List Value):Prop:=w.heap[b]? = some (.cells (oj L++R).toArray 150 (0,0))
section
variable {w w':World} {b:Nat} {L:List Nat} {R:List Value}
theorem Rx.lt(h:Rx w b L R):b<w.heap.size:=(cQ.1 h).1
theorem Rx.cell(h:Rx w b L R){i:Nat}(hi:i<L.length):w.cell? ⟨b,i,none⟩=some (.int .u32 (L.getD i 0:Int)):=by
 unfold Rx at h;simp only[World.cell?,h];simp[oj,hi,fD]
theorem Rx.frozen(h:Rx w b L R)(i:Nat):w.frozen? ⟨b,i,none⟩=false:=by
 unfold Rx at h;simp[World.frozen?,h]
theorem Rx.set(h:Rx w b L R){i:Nat}(hi:i<L.length)(x:Nat):Rx (w.setCell ⟨b,i,none⟩ (.int .u32 (x:Int))) b (L.set i x) R:=by
 unfold Rx at h ⊢;simp only[World.setCell,eK,h];simp[oj,List.map_set,List.set_append,hi]
theorem Rx.qn(h:Rx w b L R)(hb:w'.heap[b]? = w.heap[b]?):Rx w' b L R:=by unfold Rx at h ⊢;rw[hb];exact h
end
structure sM(b:Nat)(w w':World):Prop where
 below:Below b w w'
 size:w'.heap.size=w.heap.size
 pT:∀ x,x≠b->w'.heap[x]? = w.heap[x]?
theorem sM.refl(b:Nat)(w:World):sM b w w:=⟨Below.refl _ _,rfl,λ_ _=>rfl⟩
theorem sM.Gq{b:Nat}{w w':World}(h:sM b w w')(i:Nat)(v:Value):sM b w (w'.setCell ⟨b,i,none⟩ v):=
 ⟨h.below.setCell (p:=⟨b,i,none⟩) (aV _) v,by
  have:(w'.setCell ⟨b,i,none⟩ v).heap.size=w'.heap.size:=by simp[World.setCell]
  rw[this,h.size],λx hx=>by
  rw[<-h.pT x hx];simp only[World.setCell,eK];rw[aR (λe=>hx e.symm)]⟩
def Ps(b:Nat)(A:Option Addr):Prop:=∀ b' o s,A=some ⟨b',o,s⟩->b'≠b
theorem Sl.pT{w w':World}{A:Option Addr}{c b:Nat}{L:List Nat}(h:Sl w A c L)(ha:Ps b A)(ho:sM b w w'):Sl w' A c L:=
 ⟨h.cap,h.qf,h.ok,h.xh,λi x hx=>by
  obtain⟨b',o,e,h1,h2⟩:=h.cell i x hx;refine⟨b',o,e,by rw[ho.size];exact h1,?_⟩;rw[<-h2];exact(World.cell?_of_block (w:=w) (w':=w') (ho.pT b' (ha _ _ _ e)))⟩
theorem Zg{u m b:Nat}(hm:m<4294967296)(hb:b<=4294967296):
 IntKind.u64.wrap (IntKind.u64.wrap ((u:Int)-m)-(b:Int))=(((u+18446744073709551616-m-b)%18446744073709551616:Nat):Int):=by
 rw[IntKind.wrap_u64,IntKind.wrap_u64];omega
theorem al0(b j cu c q:Nat)(O V:List Nat)(R:List Value)(A:Option Addr)(w:World)(hu:Rx w b O R)(hv:Sl w A c V)(hA:Ps b A)(k0:iD O)(hj:j+V.length<O.length)(hq:q<=4294967295)(hl:O.length<=1000000):
 Calls prog 378 #[.slice (some ⟨b,j,none⟩) (V.length+1) cu,.slice A V.length c,.int .u64 q] w λe w'=>∃ (O':List Nat) (δ:Nat),e = .returned (.bool (decide (δ=1)))/\Rx w' b O' R/\O'.length=O.length/\iD O'/\δ<=1 /\
  val O'+q*(4294967296^j*val V)=val O+4294967296^(j+V.length+1)*δ/\(∀ i,j+V.length<i->O'.getD i 0=O.getD i 0)/\sM b w w':=by
 obtain⟨n,hn⟩:∃ n,n=V.length:=⟨_,rfl⟩
 rw[<-hn]at hj ⊢;have HN:=aol hn;have HJ:=aol hj;clear hn;have ko:n<=1000000:= ae ;have II:j<=1000000:= ae ;clear hj;have HT0:=aol (xt.start k0 j q V);clear k0;have HO:=aol (sM.refl b w);have HU:=aol hu;clear hu;go_enter func378,ntmps378;go_wp2;go_loopw [7,8,9,10,11,12,16] (λcy bo _ _ _ _ i wr=>∃ (k c' b':Nat) (O':List Nat),k<=n/\i = .int .i64 k/\cy = .int .u64 c'/\bo = .int .u64 b'/\xt O j q V k O' c' b'/\Rx wr b O' R/\sM b w wr) (λ_ _ _ _ _ _ i _=>n-(intOf i).toNat)
 case atStart=>
  exact⟨0,0,0,O,bN _,rfl,rfl,rfl,HT0.out,HU.out,HO.out⟩
 case round=>
  obtain⟨k,c',b',O',hk,rfl,rfl,rfl,ht,hR,ho⟩:=hrel;clear HT0 HO HU;have HTk:=aol ht;have jb:=ht.Qs;have ET:=ht.QO;have HOl:=aol ht.len;clear ht;have MS:=hv.pT hA ho;by_cases iE:k<n
  .have yW:k<V.length:=by rw[<-HN.out];exact iE
   obtain⟨ab,ao,e1,_,c1⟩:=MS.lp yW;have pC:V.getD k 0<4294967296:=hv.ok.getD k;have Uj:V[k]=V.getD k 0:=by simp[aW,yW]
   rw[Uj]at c1;have pY:j+k<O'.length:=by rw[HOl.out];have:=HJ.out;omega
   have c2:=hR.cell pY;have c3:=hR.frozen (j+k);have Fi:O'.getD (j+k) 0<4294967296:=HTk.out.ok.getD _;obtain⟨rW,kB,Dj,TY⟩:=al1 hq pC ET jb Fi;have HST:=aol (HTk.out.step (b':=((O'.getD (j+k) 0+18446744073709551616-(q*V.getD k 0+c')%4294967296-b')%18446744073709551616)/9223372036854775808) yW (by rw[<-HN.out];exact HJ.out) (bh _ ag) kB Dj TY);have HRS:=aol (λx:Nat=>hR.set pY x);have HOS:=aol (λ(v:Value)=>ho.Gq (j+k) v);clear hR ho HTk pY Uj yW TY HOl MS;subst e1;have IN:q*V.getD k 0<=4294967295*4294967295:=cL hq ae;have y6:IntKind.u64.wrap ((q:Int)*(V.getD k 0:Int))=((q*V.getD k 0:Nat):Int):=by rw[<-dN];exact pE _ ae 
   generalize V.getD k 0=y at *
   generalize q*y=z at *
   have I3:IntKind.u64.wrap ((z:Int)+c')=((z+c':Nat):Int):=by rw[<-ey];exact pE _ ae 
   generalize O'.getD (j+k) 0=u at *
   generalize z+c'=s at *
   have uo:bits .and .u64 (s:Int) 4294967295=((s%4294967296:Nat):Int):=by rw[wm s ae];omega
   have anA:s%4294967296<4294967296:=bh _ ag;have hd:(s:Int)/4294967296=((s/4294967296:Nat):Int):= ae ;generalize s%4294967296=m at *
   generalize s/4294967296=s2 at *
   have Fe:=Zg (u:=u) (m:=m) (b:=b') ae ae;generalize (u+18446744073709551616-m-b')%18446744073709551616=t at *
   have xK:(j:Int)+k=((j+k:Nat):Int):= ae ;go_wp2;go_roundw
   case rel=>
    have e1:((t:Int)%4294967296)=((t%4294967296:Nat):Int):= ae ;exact⟨k+1,s2,t/9223372036854775808,O'.set (j+k) (t%4294967296),ae,by go_num,by go_num,by go_num,HST.out,by rw[e1];exact HRS.out _,HOS.out _⟩
   case measure=>simp[intOf];omega
  .obtain rfl:k=n:= ae 
   have Mx:j+k<O.length:=HJ.out;have HTk':=aol (show xt O j q V V.length O' c' b' by rw[<-HN.out];exact HTk.out);have HL:=HTk'.out.No (t:=(O'.getD (j+k) 0+18446744073709551616-c'-b')%18446744073709551616) (by rw[<-HN.out];exact Mx) (by rw[<-HN.out]);rw[<-HN.out]at HL;have HT:=aol HL;clear HL;have pY:j+k<O'.length:=by rw[HOl.out];exact Mx
   have c2:=hR.cell pY;have c3:=hR.frozen (j+k);have Fi:O'.getD (j+k) 0<4294967296:=HTk.out.ok.getD _;have HRS:=aol (λx:Nat=>hR.set pY x);have HOS:=aol (λ(v:Value)=>ho.Gq (j+k) v);clear hR ho HTk HTk' pY Mx HOl MS;generalize O'.getD (j+k) 0=u at *
   have Fe:=Zg (u:=u) (m:=c') (b:=b') ET ae;have MQ:(u+18446744073709551616-c'-b')%18446744073709551616<18446744073709551616:=bh _ ag;generalize (u+18446744073709551616-c'-b')%18446744073709551616=t at *
   have xK:(j:Int)+k=((j+k:Nat):Int):= ae ;go_wp2;go_ret;have e1:((t:Int)%4294967296)=((t%4294967296:Nat):Int):= ae ;obtain⟨t1,t2,t3,t4,t5⟩:=HT.out;exact⟨O'.set (j+k) (t%4294967296),t/9223372036854775808,JR (a:=(((t:Int)/9223372036854775808)==1)) (by rw[cS,gr,gq];omega),by rw[e1];exact HRS.out _,t1,t2,t3,t4,t5,HOS.out _⟩
theorem VR(A:Option Addr)(c:Nat)(L:List Nat)(n:Nat)(w:World)(hs:Sl w A c L)(hlen:L.length<=100000000)(hn:n<=65536):
 Calls prog 275 #[.slice A L.length c,.int .i64 n] w (λe w'=>∃ T v,e = .returned v/\val T=val L*2^n/\T.length=n/32+(il L).length+1/\Ow w' w.heap.size v T/\iz w w'):=by
 have hT:=aol (uH A c L w hs);have kB:=hs.tW;have nD:=oO L;have hC:=kB.cap;have hL:=hs.qf;unfold lZ at nD;have hv:=aol (oG L);generalize il L=M at *
 obtain⟨m,hm⟩:∃ m,m=M.length:=⟨_,rfl⟩
 rw[<-hm]at hT nD hC;have HM:=aol hm;clear hm;have pf:=Nw (n/32) (n/32+m+1) ae ae;rw[show((n/32:Nat):Int)=n/32 by omega,show((n/32+m+1:Nat):Int)=n/32+m+1 by omega]at pf;have EP:=aol (Ow.xS w w.heap.size (n/32) (n/32+m+1) (aV _) ae ae);go_enter func275,ntmps275;go_wp2_with fail;refine hT.out.mono ?_;rintro e w' ⟨rfl,rfl⟩;go_wp2;go_loopw [5,6,23] (λv cy i wr=>∃ (k q:Nat) (O:List Nat),k<=m/\i = .int .i64 k/\cy = .int .u64 q/\q<2^(n%32)/\O.length=n/32+k/\val O+4294967296^(n/32+k)*q=val (M.take k)*2^(n%32)*4294967296^(n/32)/\Ow wr w.heap.size v O/\iz w wr) (λ_ _ i _=>m-(intOf i).toNat)
 case atStart=>
  exact⟨0,0,List.replicate (n/32) 0,bN _,rfl,rfl,aZ ag,aj,by simp[zU],EP.out,iz.alloc _ _⟩
 case round=>
  obtain⟨k,q,O,hk,rfl,rfl,hq,hO,kW,lk,hb⟩:=hrel;have HV:=aol kW;have HO:=aol hO;have EO:O.length<=200000000:= ae ;have ux:=aol hq;clear kW hO hq;obtain⟨OA,Oc,rfl,yY⟩:=lk.sl;by_cases iE:k<m
  .have pe:k<M.length:=by have:=HM.out;omega
   obtain⟨ab,ao,rfl,_,c1⟩:=(kB.below hb).lp pe;have mG:M[k]<4294967296:=kB.ok.get pe;have HX:=aol (OU (c:=q) (s:=n%32) (n0:=n/32) pe HO.out HV.out);generalize M[k]=x at *
   obtain⟨hw,y7,tK⟩:=OV x q (n%32) mG (bh _ ag) ux.out;generalize x*2^(n%32)+q=z at *
   have Fl:=aol tK;clear tK;have lO:O.length+[z%4294967296].length<=10000000000:= av ;go_wp2_with (at_builtin;go_must (refine q7 ai _ _ ai w.heap.size _ O ai (lk.alloc _) _ _ _ [z%4294967296] ai ai (Sl.s6 _ _ (z%4294967296) ae ae) lO (qe hb.size _) ?_);intro v' w1 oI hg o9)
   go_roundw
   case rel=>
    exact⟨k+1,z/4294967296,O++[z%4294967296],ae,by go_num,by go_num,Fl.out,by rw[ch,HO.out];rfl,HX.out,oI,(hb.trans (iz.alloc _ _)).own _ _ (lk.alloc _) hg⟩
   case measure=>simp[intOf];omega
  .obtain rfl:k=m:= ae 
   have lO:O.length+[q].length<=10000000000:= av ;have IX:q<4294967296:=by
    have:=ux.out;have hp:2^(n%32)<=2^31:=bj ag ae;have e31:(2:Nat)^31=2147483648:= ag ;omega
   have TX:(q:Int)%4294967296=q:= ae ;go_wp2_with (at_builtin;go_must (refine q7 ai _ _ ai w.heap.size _ O ai (lk.alloc _) _ _ _ [q] ai ai (Sl.s6 _ _ q ae ae) lO (qe hb.size _) ?_);intro v' w1 oI hg o9)
   go_ret;refine⟨O++[q],v',rfl,?_,by rw[ch,HO.out,<-HM.out];rfl,oI,(hb.trans (iz.alloc _ _)).own _ _ (lk.alloc _) hg⟩;have h:=HV.out;rw[ct (by rw[HM.out];exact aV _)]at h;rw[uU,HO.out,qF,zS,cv,bB,h,<-hv.out,nP,bd,<-aX];congr 2;omega
end Go.Proofs.YtkjkcjhacddojaaGreatDoor
namespace Go.Proofs.YtkjkcjhacddojaaGreatDoor.Fp
def iB(n k:Nat):Nat:=n/4294967296^k%4294967296
theorem pH(n k:Nat):iB n k<4294967296:=bh _ ag 
theorem Bn(k:Nat):iB 0 k=0:=by unfold iB;rw[fN]
theorem pw(k:Nat):0<4294967296^k:=aZ ag 
theorem pI{L:List Nat}(h:iD L)(k:Nat):L.getD k 0=iB (val L) k:=by
 unfold iB;rw[<-GA h];by_cases hk:k<L.length
 .rw [eI hk,show val (L[k]::L.drop (k+1))=L[k]+4294967296*val (L.drop (k+1))from rfl,dV,bC (h.get hk)]
  simp[aW,hk]
 .rw [dW ae,aW,bT ae];rfl
theorem mod_succ(n k:Nat):n%4294967296^(k+1)=n%4294967296^k+4294967296^k*iB n k:=by
 rw[a6,fM];rfl
theorem u9{n k:Nat}(h:n<4294967296^k){j:Nat}(hj:k<=j):iB n j=0:=by
 unfold iB;rw[bW (bF h (bj ag hj))]
def iL(n m:Nat):List Nat:=(List.range m).map (iB n)
theorem mK(n m:Nat):(iL n m).length=m:=by simp[iL]
theorem sj(n m:Nat):iD (iL n m):=λx hx=>by
 obtain⟨k,_,rfl⟩:=c9.1 hx;exact pH n k
theorem tv{n m k:Nat}(h:k<m):(iL n m).getD k 0=iB n k:=by
 simp[iL,aW,h]
theorem Hs(m i:Nat):(iL 0 m).getD i 0=0:=by
 by_cases h:i<m
 .rw [tv h,Bn]
 .rw [aW,bT (by rw[mK];omega)];rfl
theorem acn(n m:Nat):iL n (m+1)=iL n m++[iB n m]:=by simp[iL,List.range_succ]
theorem uV(n m:Nat):val (iL n m)=n%4294967296^m:=by
 induction m with
 |zero=>simp[iL,val];omega
 |succ m ih=>
  rw[acn,uU,ih,mK,mod_succ];rfl
theorem amQ{L M:List Nat}(hL:iD L)(hM:iD M)(hl:L.length=M.length)(hv:val L=val M):L=M:=by
 apply gH hl;intro i h1 h2;have e1:=pI hL i;have e2:=pI hM i;rw[hv,<-e2]at e1;simpa[aW,h1,h2]using e1
theorem aco{L:List Nat}(h:iD L):iL (val L) L.length=L:=
 amQ (sj _ _) h (mK _ _) (by rw[uV,bC (mh h)])
theorem CO{L:List Nat}{n m:Nat}(h:iD L)(hl:L.length=m)(hv:val L=n):iL n m=L:=by subst hl hv;exact aco h
theorem Cq{n m:Nat}(h:n<4294967296^m):il (iL n m)=gV n:=by
 rw[qE (sj n m),uV,bC h]
theorem Ld(n:Nat):iL n (gV n).length=gV n:=CO (kE n) rfl (jC n)
def kJ(a b k m:Nat):List Nat:=(List.range m).map λj=>if j<k then iB a j else iB b j
theorem uG(a b k m:Nat):(kJ a b k m).length=m:=by simp[kJ]
theorem ahj{a b k m j:Nat}(h:j<m):(kJ a b k m).getD j 0=if j<k then iB a j else iB b j:=by
 simp[kJ,aW,h]
theorem FF{a b k m:Nat}(h:k<m):(kJ a b k m).getD k 0=iB b k:=by rw[ahj h,aR (fk k)]
theorem FG(a b m:Nat):kJ a b 0 m=iL b m:=by simp[kJ,iL]
theorem Jm{a b k m:Nat}(h:m<=k):kJ a b k m=iL a m:=by
 unfold kJ iL;exact fe λj hj=>aS (bF (bI.1 hj) h)
theorem Jn{a b k m:Nat}:(kJ a b k m).set k (iB a k)=kJ a b (k+1) m:=by
 apply gH
 .simp [kJ]
 .intro j h1 h2
  have hj:j<m:=by simpa[kJ]using h2
  rw[an1];by_cases h:k=j
  .subst h;simp[kJ]
  .rw [aR h]
   simp only[kJ,gI,an2];by_cases q:j<k
   .rw [aS q,aS ae]
   .rw [aR q,aR ae]
theorem ahk{a b k m:Nat}:(kJ a b (k+1) m).set k (iB b k)=kJ a b k m:=by
 apply gH
 .simp [kJ]
 .intro j h1 h2
  have hj:j<m:=by simpa[kJ]using h2
  rw[an1];by_cases h:k=j
  .subst h;simp[kJ]
  .rw [aR h]
   simp only[kJ,gI,an2];by_cases q:j<k
   .rw [aS q,aS ae]
   .rw [aR q,aR ae]
theorem Lg(a k:Nat):a/4294967296^k=4294967296*(a/4294967296^(k+1))+iB a k:=by
 rw[a6,<-cA];unfold iB;omega
theorem ak3{a d k:Nat}(hd:0<d)(tD:d<4294967296):(a/4294967296^(k+1)%d*4294967296+iB a k)/d=iB (a/d) k/\(a/4294967296^(k+1)%d*4294967296+iB a k)%d=a/4294967296^k%d:=by
 have e1:=Lg a k;have e2:=bY (a/4294967296^(k+1)) d;have e3:=bh (a/4294967296^(k+1)) hd;have e4:=pH a k;have e5:a/4294967296^k=d*(4294967296*(a/4294967296^(k+1)/d))+(a/4294967296^(k+1)%d*4294967296+iB a k):=by
  rw[e1,cE];omega
 have e6:(a/4294967296^(k+1)%d*4294967296+iB a k)/d<4294967296:=by
  rw[bS hd];have:=bE 4294967296 (show a/4294967296^(k+1)%d+1<=d from e3);omega
 constructor
 .conv=>rhs;unfold iB
  rw[cA,bc d,<-cA,e5,dc hd,dA,bC e6]
 .rw [e5,dA]
theorem R6{a b N:Nat}(ha:a<4294967296^N)(hb:b<4294967296^N)(h:∀ i,i<N->iB a i=iB b i):a=b:=by
 have e1:val (iL a N)=a:=by rw[uV,bC ha]
 have e2:val (iL b N)=b:=by rw[uV,bC hb]
 rw[<-e1,<-e2];congr 1;exact fe λj hj=>h j (bI.1 hj)
theorem acx{a b N j:Nat}(ha:a<4294967296^N)(hb:b<4294967296^N)(h:∀ i,j<=i->iB a i=iB b i):a/4294967296^j=b/4294967296^j:=by
 have e:∀ (n i:Nat),iB (n/4294967296^j) i=iB n (j+i):=λn i=>by unfold iB;rw[cA,<-aX]
 refine R6 (N:=N) (bR (bD _ _) ha) (bR (bD _ _) hb) λi _=>?_
 rw[e,e];exact h _ ae 
theorem Vg{a b N j:Nat}(ha:a<4294967296^N)(hb:b<4294967296^N)(h:∀ i,j<i->iB a i=iB b i)(hd:iB a j<iB b j):a<b:=by
 have e:=acx (j:=j+1) ha hb λi hi=>h i hi
 have e1:=Lg a j;have e2:=Lg b j;have:a/4294967296^j<b/4294967296^j:= ae ;exact gG λhle=>by
  have:=Nat.div_le_div_right (c:=4294967296^j) hle;omega
theorem QB{n k:Nat}(h:n<4294967296^(k+1))(hd:iB n k≠0):ie n=32*k+ie (iB n k):=by
 have e1:iB n k=n/4294967296^k:=by
  unfold iB;rw[bC];rw[bS (pw k),bc 4294967296,<-a6];exact h
 have h1:=rH hd;have h2:=oY (iB n k);have h3:=mY hd;obtain⟨m,hm⟩:∃ m,ie (iB n k)=m+1:=⟨ie (iB n k)-1,ae⟩
 rw[hm]at h1 h2 ⊢;rw[dI]at h1;rw[<-cF];have hp:(4294967296:Nat)^k=2^(32*k):=nP k;refine u4 ?_ ?_
 .rw [e1,cM (pw k),hp,<-aX,dZ]at h1;exact h1
 .rw [e1,bS (pw k),hp,<-aX,show m+1+32*k=32*k+m+1 by omega]at h2;exact h2
def jB(a b k:Nat):Nat:=(a%4294967296^k+b%4294967296^k)/4294967296^k
theorem Hj(a b:Nat):jB a b 0=0:=by unfold jB;simp[cI]
theorem tp(a b k:Nat):jB a b k<=1:=by
 unfold jB;have h1:=bh a (pw k);have h2:=bh b (pw k);have:(a%4294967296^k+b%4294967296^k)/4294967296^k<2:=by rw[bS (pw k)];omega
 omega
theorem KF(a b k:Nat):(a+b)/4294967296^k=a/4294967296^k+b/4294967296^k+jB a b k:=by
 unfold jB;have h1:=bY a (4294967296^k);have h2:=bY b (4294967296^k);have h3:=dc (pw k) (a/4294967296^k+b/4294967296^k) (a%4294967296^k+b%4294967296^k);rw[<-h3];congr 1;rw[bt];omega
theorem yB(a b k:Nat):iB a k+iB b k+jB a b k=iB (a+b) k+4294967296*jB a b (k+1):=by
 have h1:jB a b (k+1)=(iB a k+iB b k+jB a b k)/4294967296:=by
  conv=>lhs;unfold jB
  rw[mod_succ,mod_succ,a6,<-cA];congr 1;have h3:=dc (pw k) (iB a k+iB b k) (a%4294967296^k+b%4294967296^k);unfold jB;rw[<-h3];congr 1;rw[bt];omega
 have h2:iB (a+b) k=(iB a k+iB b k+jB a b k)%4294967296:=by
  conv=>lhs;unfold iB
  rw[KF];unfold iB;omega
 rw[h1,h2];exact(dt _ _).symm
theorem abO{a b k:Nat}(h:a+b<4294967296^k):jB a b k=0:=by
 have h0:=KF a b k;rw[bW h]at h0;exact(Nat.add_eq_zero_iff.1 h0.symm).2
theorem abP{a b k:Nat}(ha:a<4294967296^k)(hb:b<4294967296^k):jB a b (k+1)=0:=by
 apply abO;rw[a6];omega
theorem Ym{a b:Nat}(h:b<=a)(k:Nat):iB a k+4294967296-iB b k-jB (a-b) b k=iB (a-b) k+4294967296*(1-jB (a-b) b (k+1)):=by
 have h1:=yB (a-b) b k;rw[eH h]at h1;have h2:=tp (a-b) b (k+1);have h3:=pH b k;have h4:=tp (a-b) b k;have h5:=pH (a-b) k;omega
theorem ak5(n s k:Nat):iB (n/2^s) k=((iB n (k+s/32)+4294967296*iB n (k+s/32+1))/2^(s%32))%4294967296:=by
 have e:2^s*4294967296^k=4294967296^(k+s/32)*2^(s%32):=by
  rw[nP,nP,<-aX,<-aX];congr 1;omega
 unfold iB;rw[cA,e,<-cA,a6,<-cA];generalize n/4294967296^(k+s/32)=N;have hr:s%32<32:=bh _ ag;generalize s%32=r at *
 have h1:N%4294967296+4294967296*(N/4294967296%4294967296)=N%(4294967296*4294967296):=(fM).symm;rw[h1];have h2:N=4294967296*(N/(4294967296*4294967296))*4294967296+N%(4294967296*4294967296):=by
  have:=bY N (4294967296*4294967296);omega
 have h3:(4294967296:Nat)=2^r*2^(32-r):=by rw[<-aX,show r+(32-r)=32 by omega]
 generalize N%(4294967296*4294967296)=u at *
 generalize N/(4294967296*4294967296)=t at *
 have h4:N/2^r=4294967296*(t*2^(32-r))+u/2^r:=by
  rw[h2];have e2:4294967296*t*4294967296=2^r*(4294967296*(t*2^(32-r))):=by
   conv=>lhs;rw[bc]
   conv=>lhs;lhs;rw[h3]
   rw[bd,cE (2^(32-r)),bc (2^(32-r)) t]
  rw[e2,dc (aZ ag)]
 rw[h4,dA]
theorem ak2{O:List Nat}{P x n k m:Nat}(hx:x<4294967296)(hO:O=iL (P*2^n) m)(hP:P<4294967296^k)(hm:k+n/32+1<m):
 (O.getD (k+n/32) 0)<2^(n%32)/\((O.set (k+n/32) (O.getD (k+n/32) 0+x*2^(n%32)%4294967296)).set (k+n/32+1) (x*2^(n%32)/4294967296))=iL ((P+4294967296^k*x)*2^n) m:=by
 have hr:n%32<32:=bh _ ag;have hq:(2:Nat)^n=2^(n%32)*4294967296^(n/32):=by rw[nP,<-aX];congr 1;omega
 have yM:2^(n%32)<=2^31:=bj ag ae;have EN:(2:Nat)^31=2147483648:= ag ;have pZ:0<2^(n%32):=aZ ag;have k0:iD O:=by rw[hO];exact sj _ _
 have hlen:O.length=m:=by rw[hO,mK]
 have hN:P*2^n<4294967296^(k+n/32)*2^(n%32):=by
  have h1:P*2^(n%32)<4294967296^k*2^(n%32):=cD hP pZ;have h2:=cD h1 (pw (n/32));rw[hq,<-bd,aX,fB (4294967296^k)];exact h2
 have tA:P*2^n<4294967296^(k+n/32+1):=by
  rw[a6];exact bF hN (cg _ ae)
 have o1:O.getD (k+n/32) 0=P*2^n/4294967296^(k+n/32):=by
  rw[hO,tv ae];unfold iB;rw[bC];rw[bS (pw _),bc 4294967296,<-a6];exact tA
 have o2:O.getD (k+n/32+1) 0=0:=by rw[hO,tv hm];exact u9 tA (aV _)
 have o3:O.getD (k+n/32) 0<2^(n%32):=by
  rw[o1,bS (pw _),bc (2^(n%32))];exact hN
 refine⟨o3,?_⟩;have ri:x*2^(n%32)<4294967296*2^(n%32):=cD hx pZ;have Av:O.getD (k+n/32) 0+x*2^(n%32)%4294967296<4294967296:=by
  have h3:(4294967296:Nat)=2^(n%32)*2^(32-n%32):=by rw[<-aX,show n%32+(32-n%32)=32 by omega]
  have h4:x*2^(n%32)%4294967296=2^(n%32)*(x%2^(32-n%32)):=by
   conv=>lhs;rw[bc];rhs;rw[h3]
   exact gw _ _ _
  have h5:x%2^(32-n%32)<2^(32-n%32):=bh _ (aZ ag);have h6:=cg (2^(n%32)) (show x%2^(32-n%32)+1<=2^(32-n%32)from h5);rw[<-h3,bt,bQ]at h6;omega
 have oz:k+n/32<O.length:= ae ;have xN:=yi (x:=O.getD (k+n/32) 0+x*2^(n%32)%4294967296) oz;have sV:k+n/32+1<(O.set (k+n/32) (O.getD (k+n/32) 0+x*2^(n%32)%4294967296)).length:=by rw[cw];omega
 have rZ:=yi (x:=x*2^(n%32)/4294967296) sV;rw[vk ae,o2,cv,bB]at rZ;refine(CO ((k0.set _ Av).set _ ?_) (by rw[cw,cw,hlen]) ?_).symm
 .rw [bS ag]
  exact bF ri (cg _ ae)
 .have rY:val O=P*2^n:=by
   rw[hO,uV,bC];exact bF tA (bj ag ae)
  rw[rZ];rw[rY,bt]at xN;have e1:=dt (x*2^(n%32)) 4294967296;have e2:=congrArg (4294967296^(k+n/32) * ·) e1;simp only[bt]at e2;have e3:4294967296^(k+n/32)*(x*2^(n%32))=4294967296^k*x*2^n:=by
   rw[hq,aX];simp only[bd,bc,cE]
  rw[a6,bd,bL];rw[e3]at e2;omega
def lW(r b k:Nat):Nat:=(2*(r%4294967296^k)+b)/4294967296^k
theorem Lc(r b:Nat):lW r b 0=b:=by unfold lW;simp[cI]
theorem Hq{r b:Nat}(hb:b<=1)(k:Nat):lW r b k<=1:=by
 unfold lW;have h1:=bh r (pw k);have:(2*(r%4294967296^k)+b)/4294967296^k<2:=by rw[bS (pw k)];omega
 omega
theorem Hr{r b:Nat}(hb:b<=1)(k:Nat):iB (2*r+b) k=2*iB r k%4294967296+lW r b k/\lW r b (k+1)=iB r k/2147483648:=by
 have h1:(2*r+b)/4294967296^k=2*(r/4294967296^k)+lW r b k:=by
  unfold lW;have h1:=bY r (4294967296^k);have h3:=dc (pw k) (2*(r/4294967296^k)) (2*(r%4294967296^k)+b);rw[<-h3];congr 1;rw[cE];omega
 have h2:=Hq (r:=r) hb k;have h3:lW r b (k+1)=(2*iB r k+lW r b k)/4294967296:=by
  conv=>lhs;unfold lW
  rw[mod_succ,a6,<-cA];congr 1;have h3:=dc (pw k) (2*iB r k) (2*(r%4294967296^k)+b);unfold lW;rw[<-h3];congr 1;rw[cE];omega
 have h4:iB (2*r+b) k=(2*iB r k+lW r b k)%4294967296:=by
  conv=>lhs;unfold iB
  rw[h1];unfold iB;omega
 have h5:=pH r k;constructor
 .rw [h4];omega
 .rw [h3];omega
structure se(U0:Nat)(V:List Nat)(k m:Nat)(O Q:List Nat):Prop where
 UW:O.length=m
 Fy:Q.length=m-V.length
 zz:iD O
 B5:iD Q
 eq:val O+val V*val Q=U0
 lt:val O<val V*4294967296^k
 qz:∀ i,i<k->Q.getD i 0=0
theorem se.step{U0 k m x:Nat}{V O Q O2:List Nat}(h:se U0 V (k+1) m O Q)(hk:k<m-V.length)(hl:O2.length=m)(k0:iD O2)(hx:x<4294967296)
 (he:val O2+x*(4294967296^k*val V)=val O) (iE:val O2<val V*4294967296^k):se U0 V k m O2 (Q.set k x):=by
 have yV:k<Q.length:=by rw[h.Fy];exact hk
 have hv:=yi (x:=x) yV;rw[h.qz k (an3 k),cv,bB]at hv;refine⟨hl,by rw[cw];exact h.Fy,k0,h.B5.set _ hx,?_,iE,λi hi=>by rw[vk ae];exact h.qz i ae⟩;rw[hv,bt,show val V*(4294967296^k*x)=x*(4294967296^k*val V)by simp only[bc,cE,bd]];have:=h.eq;omega
theorem se.zero{U0 k m:Nat}{V O Q:List Nat}(h:se U0 V (k+1) m O Q)(hV:iD V){i:Nat}(hi:k+V.length<i):O.getD i 0=0:=by
 refine amr h.zz (k:=k+V.length+1) ?_ hi;refine fm h.lt ?_;have:=cD (mh hV) (pw (k+1));rw[<-aX,show V.length+(k+1)=k+V.length+1 by omega]at this;exact this
theorem se.aeX{U0 k m:Nat}{V O Q:List Nat}(h:se U0 V (k+1) m O Q)(hV:iD V)(hn:2<=V.length)(hN:2147483648<=V.getD (V.length-1) 0):
 O.getD (k+V.length) 0<=V.getD (V.length-1) 0/\∀ g,g<=4294967295 ->
  g<=((O.getD (k+V.length) 0*4294967296+O.getD (k+V.length-1) 0)*4294967296+O.getD (k+V.length-2) 0)/(V.getD (V.length-1) 0*4294967296+V.getD (V.length-2) 0) ->
  (g=4294967295\/((O.getD (k+V.length) 0*4294967296+O.getD (k+V.length-1) 0)*4294967296+O.getD (k+V.length-2) 0)/(V.getD (V.length-1) 0*4294967296+V.getD (V.length-2) 0)<=g) ->
  val O/4294967296^k/val V<=g/\g<=val O/4294967296^k/val V+1:=by
 have t3:=YM h.zz (j:=k) hn (λi hi=>h.zero hV hi);have t2:=amp hV hn rfl;have hU:val O/4294967296^k<4294967296*val V:=by
  rw[bS (pw k)];have:=h.lt;rw[a6]at this;rw[show 4294967296*val V*4294967296^k=val V*(4294967296^k*4294967296)by simp only[bc,cE,bd]];exact this
 have w1:=h.zz.getD (k+V.length-1);have w2:=h.zz.getD (k+V.length-2);have w3:=hV.getD (V.length-2);refine⟨?_,λg g1 g2 g3=>?_⟩
 .have hP:=pw (V.length-2)
  have h1:val V<(V.getD (V.length-1) 0*4294967296+V.getD (V.length-2) 0+1)*4294967296^(V.length-2):=by
   rw[<-t2,<-bS hP];omega
  have h2:val O/4294967296^k/4294967296^(V.length-2)<4294967296*(V.getD (V.length-1) 0*4294967296+V.getD (V.length-2) 0+1):=by
   rw[bS hP];refine bF hU ?_;rw[bd];exact cg _ (cX h1)
  rw[t3]at h2;omega
 .rw [<-t3,<-t2]at g2 g3
  exact agB (pw _) (by rw[t2];omega) hU g1 g2 g3
theorem se.Wc{U0 k m x:Nat}{V O Q O':List Nat}(h:se U0 V (k+1) m O Q)(hV:iD V)(k0:iD O')(hv:val O'+x*(4294967296^k*val V)=val O+4294967296^(k+V.length+1)*1)
 (hs:∀ i,k+V.length<i->O'.getD i 0=O.getD i 0):val O'<4294967296^(k+V.length+1)/\0<x:=by
 have h1:val O'<4294967296^(k+V.length+1):=Kn k0 λi hi=>by rw[hs i ae];exact h.zero hV ae 
 refine⟨h1,?_⟩;rcases eh x with h0|h0
 .subst h0;rw[cr]at hv;omega
 .exact h0
theorem se.aaF{U0 k m x κ:Nat}{V O Q O' O2:List Nat}(h:se U0 V (k+1) m O Q)(hV:iD V)(hk:k<m-V.length)(k0:iD O')(hv:val O'+x*(4294967296^k*val V)=val O+4294967296^(k+V.length+1)*1)
 (hs:∀ i,k+V.length<i->O'.getD i 0=O.getD i 0) (hx:x<=4294967295) (ri:x<=val O/4294967296^k/val V+1) (wJ:0<val V) (nD:O2.length=m) (IW:iD O2) (hκ:κ<=1)
 (h2:val O2+4294967296^(k+V.length+1)*κ=val O'+4294967296^k*val V) (kB:∀ i,k+V.length<i->O2.getD i 0=O'.getD i 0):se U0 V k m O2 (Q.set k (x-1)):=by
 obtain⟨h1,h0⟩:=h.Wc hV k0 hv hs;have h3:val O2<4294967296^(k+V.length+1):=Kn IW λi hi=>by rw[kB i ae,hs i ae];exact h.zero hV ae 
 rw[bQ]at hv;obtain⟨_,_,e,l⟩:=ack (pw k) wJ hv h1 ri hκ h2 h3;exact h.step (x:=x-1) hk nD IW ae e l
theorem ahS{L:List Nat}{x s l:Nat}(hk:iD L)(hl:L.length=l+1)(hx:L.getD l 0=x)(mw:x≠0)(hs:s=32-ie x):
 s<32/\(gV (val L*2^s)).length=l+1/\2147483648<=(gV (val L*2^s)).getD l 0/\4294967296^l*2147483648<=val L*2^s/\val L*2^s<4294967296^(l+1):=by
 have mG:x<4294967296:=by rw[<-hx];exact hk.getD l
 have jb:=mY mw;have mn:ie x<=32:=kR.2 mG;have h1:=rH mw;have h2:=oY x;have e1:2^(ie x-1)*2^s=2147483648:=by rw[<-aX,show ie x-1+s=31 by omega]
 have e2:2^ie x*2^s=4294967296:=by rw[<-aX,show ie x+s=32 by omega]
 have hp:0<2^s:=aZ ag;have hv:val L=val (L.take l)+4294967296^l*x:=by
  have:=uW L l;rw[ct ae,hx]at this;exact this
 have Av:val (L.take l)<4294967296^l:=by
  have:=mh (hk.take l);rw[b8,cT ae]at this;exact this
 have g1:4294967296^l*2147483648<=val L*2^s:=by
  rw[<-e1,<-bd];refine bE _ ?_;rw[hv];exact aY (cg _ h1) (Nat.le_add_left _ _)
 have g2:val L*2^s<4294967296^(l+1):=by
  have e3:4294967296^(l+1)=4294967296^l*(2^ie x*2^s):=by rw[a6,e2]
  rw[e3,<-bd];refine cD ?_ hp;rw[hv];have:=cg (4294967296^l) (show x+1<=2^ie x from h2);rw[bt,bQ]at this;omega
 have hlen:(gV (val L*2^s)).length=l+1:=by
  have u1:=rj g2;have u2:¬(gV (val L*2^s)).length<=l:=λh=>by
   have:=uF h;have:=pw l;omega
  omega
 refine⟨ae,hlen,?_,g1,g2⟩;rw[pI (kE _),jC];unfold iB;rw[bC (by rw[bS (pw l),bc 4294967296,<-a6];exact g2),cM (pw l),bc];exact g1
theorem se.start{A s:Nat}{V O:List Nat}(hO:iD O)(hv:val O=A*2^s){la:Nat}(hA:A<4294967296^la)(hl:O.length=la+1)(hs:s<32)(hn:1<=V.length)(ko:V.length<=la)(hV:4294967296^(V.length-1)*2147483648<=val V):
 se (A*2^s) V (la+1-V.length) (la+1) O (List.replicate (la+1-V.length) 0):=by
 refine⟨hl,aj,hO,iD.Cd _,by rw[zU,cv,bB,hv],?_,λi _=>?_⟩
 .rw [hv]
  have yM:2^s<=2^31:=bj ag ae;have EN:(2:Nat)^31=2147483648:= ag ;rw[EN]at yM;have h1:A*2^s<4294967296^la*2^s:=cD hA (aZ ag);have h2:=cg (4294967296^la) yM;have h3:=bE (4294967296^(la+1-V.length)) hV;rw[fB,<-aX,show V.length-1+(la+1-V.length)=la by omega]at h3;omega
 .rw [aW,fJ];split<;>rfl
end Go.Proofs.YtkjkcjhacddojaaGreatDoor.Fp
namespace Go.Proofs.YtkjkcjhacddojaaGreatDoor
open Go.RowKit Fp Pu
theorem A9{n:Nat}{L:List Nat}(h:n=L.length):(E.sl false n 1 (jd L))=gY L:=by subst h;rfl
theorem Eb(n:Nat)(h:n<18446744073709551616):bits .and .u64 (n:Int) 4294967295=((n%4294967296:Nat):Int):=by
 have:=Pg n 4294967295 h ag;rw[show((4294967295:Int))=((4294967295:Nat):Int)from rfl,this];exact congrArg _ (anT n 32)
theorem Kh(n:Nat)(h:n<4294967296):bits .and .u32 (n:Int) 1=((n%2:Nat):Int):=by
 have:=bits_and_u32_nat n 1 h ag;rw[show((1:Int))=((1:Nat):Int)from rfl,this];exact congrArg _ (gn n)
theorem D3(n:Nat)(h:n<4294967296):IntKind.u64.wrap ((n:Int)*2^32)=((n*4294967296:Nat):Int):=by rw[IntKind.wrap_u64];omega
theorem FY(a b:Nat)(ha:a<4294967296)(hb:b<4294967296):bits .or .u64 ((a*4294967296:Nat):Int) (b:Int)=((a*4294967296+b:Nat):Int):=by
 rw[Ki _ _ ae ae,fI,show a*4294967296=a*2^32 by rfl,AR b a 32 (by simpa using hb),dZ]
theorem DY{T n n' p:Nat}{L L':List Nat}{z:Nat}(hn:n=n')(hp:p<L.length)(hs:L.set p z=L'):Bx.le (.row false T n 1 λi' j'=>if i'=p/\0<=j'/\j'<0+1 then[.v (.int .u32 (z:Int))].getD (j'-0) .any else(jd L) i' j') (.row false T n' 1 (jd L')):=hs▸OG hn hp
theorem AJ{T n n':Nat}{N:Nat}{z:Int}(hn:n'=n+1)(hz:z=(iB N n:Int)):
 Bx.le (.row false T (n+1) 1 λi_ j_=>if i_<n then(jd (iL N n)) i_ j_ else(E.ml (.sl false 1 1 λi_ j_=>[(.v (.int .u32 z))].getD (i_*1+j_) (.v (.bool false)))) (i_-n) j_) (.row false T n' 1 (jd (iL N n'))):=by
 subst hn hz;refine .row rfl λi j hi hj=>?_
 obtain rfl:j=0:= ae ;refine⟨.iS ?_,rfl⟩;by_cases h:i<n
 .rw [aS h]
  show E.v (.int .u32 (((iL N n).getD i 0:Nat):Int))=E.v (.int .u32 (((iL N (n+1)).getD i 0:Nat):Int));rw[tv h,tv hi]
 .obtain rfl:i=n:= ae 
  rw[aR (fk i)];show E.ml _ (i-i) 0=E.v (.int .u32 (((iL N (i+1)).getD i 0:Nat):Int));rw[tv (an3 i),cU];rfl
def Rn(q rest third v w:Nat)(x:Nat):PS:=⟨32,true,[(0,.e (.v (.int .u64 (((q-x):Nat):Int)))),(1,.e (.v (.int .u64 (((rest+(x*v)):Nat):Int)))),(2,.e (.v (.int .u32 (third:Int)))),(3,.e (.v (.int .u32 (v:Int)))),(4,.e (.v (.int .u32 (w:Int))))],[]⟩
def X2(L:List Nat)(d:Nat)(x:Nat):PS:=⟨34,false,[(8,.e (iP ((L.length:Int)-1-(x:Int)))),(7,.e (.v (.int .u32 (((val L/4294967296^(L.length-x)%d):Nat):Int)))),(6,.own 11),(0,.e (gY L)),(1,.e (.v (.int .u32 (d:Int))))],[(11,.row false 150 L.length 1 (jd (kJ 0 (val L/d) (L.length-x) L.length)))]⟩
theorem acp(h l d:Nat)(h1:h<d)(h2:l<4294967296)(h3:d<4294967296):gW 399 [(.v (.int .u32 (h:Int))),(.v (.int .u32 (l:Int))),(.v (.int .u32 (d:Int)))] (.ix [.v (.int .u32 ((((h*4294967296+l)/d:Nat)):Int)),.v (.int .u32 ((((h*4294967296+l)%d:Nat)):Int))]):=by
 have e1:(h*4294967296+l)/d<4294967296:=by rw[bS ae];omega
 have e2:(h*4294967296+l)%d<4294967296:=fm (bh _ ae) h3;exact tr true call399 func399 (chain [tB 10 (av:((d:Int) != 0)=true),tF 14 ((d:Int)<=h) ae,.o 18 (.int (pE _ ae):PV.le (.e (.v (.int .u64 (IntKind.u64.wrap (h:Int))))) (.e (.v (.int .u64 (h:Int))))),.a (ae:0<=(32:Int)/\(32:Int)<=((64:Nat):Int)),.o 19 (.int (D3 _ ae):PV.le (.e (.v (.int .u64 (IntKind.u64.wrap ((h:Int)*2^32))))) (.e (.v (.int .u64 (((h*4294967296):Nat):Int))))),.o 21 (.int (pE _ ae):PV.le (.e (.v (.int .u64 (IntKind.u64.wrap (l:Int))))) (.e (.v (.int .u64 (l:Int))))),.o 22 (.int (FY _ _ ae ae):PV.le (.e (.v (.int .u64 (bits .or .u64 (((h*4294967296):Nat):Int) (l:Int))))) (.e (.v (.int .u64 (((h*4294967296+l):Nat):Int))))),.o 25 (.int (pE _ ae):PV.le (.e (.v (.int .u64 (IntKind.u64.wrap (d:Int))))) (.e (.v (.int .u64 (d:Int))))),.a (ae:0<((d:Int):Int)),
  pr ((((h*4294967296+l):Nat):Int)) ae,.o 27 (.int (uS _):PV.le (.e (.v (.int .u32 (IntKind.u32.wrap ((((h*4294967296+l)/d):Nat):Int))))) (.e (.v (.int .u32 (((((h*4294967296+l)/d)%4294967296):Nat):Int))))),.o 30 (.int (pE _ ae):PV.le (.e (.v (.int .u64 (IntKind.u64.wrap (d:Int))))) (.e (.v (.int .u64 (d:Int))))),.a (ae:0<((d:Int):Int)),.o 32 (.int (uS _):PV.le (.e (.v (.int .u32 (IntKind.u32.wrap ((((h*4294967296+l)%d):Nat):Int))))) (.e (.v (.int .u32 (((((h*4294967296+l)%d)%4294967296):Nat):Int)))))]<|rQ (.ix [(.v (.int .u32 (((((h*4294967296+l)/d)%4294967296):Nat):Int))),(.v (.int .u32 (((((h*4294967296+l)%d)%4294967296):Nat):Int)))]) (.ix [.v (.int .u32 ((((h*4294967296+l)/d:Nat)):Int)),.v (.int .u32 ((((h*4294967296+l)%d:Nat)):Int))]) (by rw[bC e1,bC e2])) ah 
theorem anK(q rest third v w N:Nat)(hq:q<=4294967295)(hr:rest<9223372036854775808)(ht:third<4294967296)(hv:v<4294967296)(hw:w<4294967296)(hNq:N<=q)(iI:∀ x,x<N->sO q rest third v w x)(g1:¬rest+N*v<4294967296):gW 400 [(.v (.int .u64 (q:Int))),(.v (.int .u64 (rest:Int))),(.v (.int .u32 (third:Int))),(.v (.int .u32 (v:Int))),(.v (.int .u32 (w:Int)))] (.v (.int .u64 (((q-N:Nat)):Int))):=
 tr true call400 func400 (chain [.s (Sp.jy (Rn q rest third v w) 0 N ae (λx hx kn=>by
    obtain⟨g1,g2⟩:=iI x ae;have m1:(q-x)*w<=4294967295*4294967295:=cL ae ae;have g3:0<q-x:=by
     rcases eh (q-x)with h|h
     .rw [h,cr]at g2;omega
     .exact h
    exact iC (chain [tT 12 ((((rest+(x*v)):Nat):Int)<4294967296) ae,.o 16 (.int (pE _ ae):PV.le (.e (.v (.int .u64 (IntKind.u64.wrap (w:Int))))) (.e (.v (.int .u64 (w:Int))))),
     pr ((((q-x):Nat):Int)*(w:Int)) ae,.a (ae:0<=(32:Int)/\(32:Int)<=((64:Nat):Int)),.o 19 (.int (D3 _ ae):PV.le (.e (.v (.int .u64 (IntKind.u64.wrap ((((rest+(x*v)):Nat):Int)*2^32))))) (.e (.v (.int .u64 ((((rest+(x*v))*4294967296):Nat):Int))))),.o 21 (.int (pE _ ae):PV.le (.e (.v (.int .u64 (IntKind.u64.wrap (third:Int))))) (.e (.v (.int .u64 (third:Int))))),.o 22 (.int (FY _ _ ae ae):PV.le (.e (.v (.int .u64 (bits .or .u64 ((((rest+(x*v))*4294967296):Nat):Int) (third:Int))))) (.e (.v (.int .u64 (((((rest+(x*v))*4294967296)+third):Nat):Int))))),tT 23 ((((((rest+(x*v))*4294967296)+third):Nat):Int)<((((q-x)*w):Nat):Int)) (Int.ofNat_lt.2 g2),pr ((((q-x):Nat):Int)-1) ae,.o 29 (.int (pE _ ae):PV.le (.e (.v (.int .u64 (IntKind.u64.wrap (v:Int))))) (.e (.v (.int .u64 (v:Int))))),pr ((((rest+(x*v)):Nat):Int)+v) ae]<|.e (chain [.o 0 (.int aw:PV.le (.e (.v (.int .u64 ((((q-x):Nat):Int)-1)))) (.e (.v (.int .u64 (((q-(x+1)):Nat):Int))))),.o 1 (.int aw:PV.le (.e (.v (.int .u64 ((((rest+(x*v))+v):Nat):Int)))) (.e (.v (.int .u64 (((rest+((x+1)*v)):Nat):Int)))))]<|.nil)) ah)
  (λhx=>by
    have m1:(q-N)*w<=4294967295*4294967295:=cL ae ae;exact iC (chain [tF 12 ((((rest+(N*v)):Nat):Int)<4294967296) ae]<|.nil) ah) ak:jv 1 f400 (Rn q rest third v w 0) (.exit 0) ⟨32,true,[(0,.e (.v (.int .u64 (((q-N):Nat):Int))))],[]⟩) (chain [.o 0 (.int aw:PV.le (.e (.v (.int .u64 (q:Int)))) (.e (.v (.int .u64 (((q-0):Nat):Int))))),.o 1 (.int aw:PV.le (.e (.v (.int .u64 (rest:Int)))) (.e (.v (.int .u64 (((rest+(0*v)):Nat):Int)))))]<|.nil)]<|.nil) ah 
theorem ahv(L:List Nat)(d:Nat)(hk:iD L)(hl:L.length<=1000000)(vv:0<d)(tD:d<4294967296):gW 375 [(gY L),(.v (.int .u32 (d:Int)))] (.ix [gY (iL (val L/d) L.length),.v (.int .u32 (((val L%d:Nat)):Int))]):=
 tr false call375 func375 (chain [.a (ae:0<=((L.length:Int):Int)/\((L.length:Int):Int)<=((L.length:Int):Int)),.a (ae:((4:Nat):Int)*(L.length:Int)<=281474976710656/\((L.length:Int):Int)<=9223372036854775807),iu ((L.length:Int)-1) ae,.s (Sp.jy (X2 L d) 0 L.length ae (λx hx kn=>by
    have TD:((L.length:Int)-1-(x:Int)).toNat=L.length-1-x:= ae ;have hld:((L.getD ((L.length:Int)-1-(x:Int)).toNat 0:Nat):Int)=(iB (val L) (L.length-1-x):Int):=by rw[TD,pI hk]
    have vF:=ak3 (a:=val L) (k:=L.length-1-x) vv tD;have rS:L.length-1-x+1=L.length-x:= ae ;have kj:L.length-(x+1)=L.length-1-x:= ae ;rw[rS]at vF;have IQ:=bh (val L/4294967296^(L.length-x)) vv;have Ml:=pH (val L) (L.length-1-x);have uA:(kJ 0 (val L/d) (L.length-x) L.length).set ((L.length:Int)-1-(x:Int)).toNat ((val L/4294967296^(L.length-x)%d*4294967296+iB (val L) (L.length-1-x))/d)=kJ 0 (val L/d) (L.length-(x+1)) L.length:=by
     rw[TD,vF.1,<-rS,ahk,kj]
    exact iC (chain [tT 16 (0<=((L.length:Int)-1-(x:Int))) ae,iX (((L.length:Int)-1-(x:Int))) (L.length) ae,.o 26 (.int hld:PV.le (.e (.v (.int .u32 (((L.getD (((L.length:Int)-1-(x:Int))).toNat 0):Nat):Int)))) (.e (.v (.int .u32 (iB (val L) (L.length-1-x):Int))))),.c (acp _ _ _ ae ae ae:gW 399 [(.v (.int .u32 (((val L/4294967296^(L.length-x)%d):Nat):Int))),(.v (.int .u32 (iB (val L) (L.length-1-x):Int))),(.v (.int .u32 (d:Int)))] _),
     iX (((L.length:Int)-1-(x:Int))) (L.length) ae,.a (ae:(((L.length:Int)-1-(x:Int))).toNat<L.length),iu (((L.length:Int)-1-(x:Int))-1) ae]<|.e (chain [.o 8 (.int aw:PV.le (.e (iP (((L.length:Int)-1-(x:Int))-1))) (.e (iP ((L.length:Int)-1-(((x+1):Nat):Int))))),.o 7 (.int (by rw[vF.2,kj]):PV.le (.e (.v (.int .u32 (((((val L/4294967296^(L.length-x)%d)*4294967296+(iB (val L) (L.length-1-x)))%d):Nat):Int)))) (.e (.v (.int .u32 (((val L/4294967296^(L.length-(x+1))%d):Nat):Int))))),.b 11 (DY rfl aI uA:Bx.le (.row false 150 L.length 1 (λi' j'=>if i'=(((L.length:Int)-1-(x:Int))).toNat/\0<=j'/\j'<0+1 then[(.v (.int .u32 (((((val L/4294967296^(L.length-x)%d)*4294967296+(iB (val L) (L.length-1-x)))/d):Nat):Int)))].getD (j'-0) .any else(jd (kJ 0 (val L/d) (L.length-x) L.length)) i' j')) (.row false 150 L.length 1 (jd (kJ 0 (val L/d) (L.length-(x+1)) L.length))))]<|.nil)) ah)
  (λhx=>by
    exact iC (chain [tF 16 (0<=((L.length:Int)-1-(L.length:Int))) ae]<|.nil) ah) ak:jv 4 f375 (X2 L d 0) (.exit 0) ⟨34,false,[(7,.e (.v (.int .u32 (((val L/4294967296^(L.length-L.length)%d):Nat):Int)))),(6,.own 11)],[(11,.row false 150 L.length 1 (jd (kJ 0 (val L/d) (L.length-L.length) L.length)))]⟩) (chain [.o 8 (.int aw:PV.le (.e (iP ((L.length:Int)-1))) (.e (iP ((L.length:Int)-1-((0:Nat):Int))))),.o 7 (.int (by rw[dj,bW (mh hk),Nat.zero_mod];rfl):PV.le (.e (.v (.int .u32 0))) (.e (.v (.int .u32 (((val L/4294967296^(L.length-0)%d):Nat):Int))))),.b 11 (Gn rfl (λi=>by rw[dj,Jm (aV _),Hs]):Bx.le (.row false 150 L.length 1 (λ_ j_=>[(.v (.int .u32 0))].getD j_ .any)) (.row false 150 L.length 1 (jd (kJ 0 (val L/d) (L.length-0) L.length))))]<|.nil)]<|rR (.ix [gY (iL (val L/d) L.length),.v (.int .u32 (((val L%d:Nat)):Int))]) (.ix (.cons (by rw[cU,FG];exact zL (mK _ _).symm) (.cons (.iS (by rw[cU,bO,dG])) .nil)):E.le (.ix [(.sl false L.length 1 (jd (kJ 0 (val L/d) (L.length-L.length) L.length))),(.v (.int .u32 (((val L/4294967296^(L.length-L.length)%d):Nat):Int)))]) (.ix [gY (iL (val L/d) L.length),.v (.int .u32 (((val L%d:Nat)):Int))]))) ah 
def ZC(w:World)(T S:List Nat)(e:Ending)(w':World):Prop:=∃ A c B d,e = .returned (.tuple #[.slice A T.length c,.slice B S.length d])/\Sl w' A c T/\Sl w' B d S/\iz w w'
theorem Ow.rx{w:World}{base:Nat}{v:Value}{L:List Nat}(h:Ow w base v L)(hl:L≠[]):∃ g cap R,v = .slice (some ⟨g,0,none⟩) L.length cap/\base<=g/\g<w.heap.size/\Rx w g L R/\L.length<=cap/\cap<=maxLen:=by
 rcases h.row.2 with⟨_,h0⟩|⟨g,cap,cur,rfl,hb,hg,pB,nN,nO,Fg⟩
 .exact absurd (df h0) hl
 .refine ⟨g,cap,cur.toList.drop L.length,rfl,hb,(cQ.1 hg).1,?_,pB,nN⟩
  unfold Rx;rw[hg];rw[bQ]at Fg;rw[<-Fg,gN]
theorem Rx.sl{w:World}{b cap:Nat}{L:List Nat}{R:List Value}(h:Rx w b L R)(hk:iD L)(hc:L.length<=cap)(hm:cap<=maxLen)(n:Nat):Sl w (some ⟨b,0,none⟩) cap (L.take n):=
 ⟨by rw[b8];omega,by unfold maxLen at hm;omega,hk.take n,(λh=>by cases h),λi x hx=>by
  rw[dY]at hx;split at hx
  .obtain ⟨hi,oX⟩:=bZ.1 hx
   refine⟨_,_,rfl,h.lt,?_⟩;rw[bX,h.cell hi];simp[aW,hx]
  .cases hx⟩
theorem ag7(x:Nat)(hx:x<4294967296)(w:World):
 Calls prog 376 #[.int .u32 x] w λe w'=>e = .returned (.int .i64 ((32-ie x:Nat):Int))/\w=w':=by
 have mn:ie x<=32:=kR.2 hx;have H:=aol (λw=>UU x hx w);go_enter func376,ntmps376;go_wp2_with fail;refine(H.out _).mono ?_;rintro e w' ⟨rfl,rfl⟩;go_wp2;go_ret;exact⟨oE ae,rfl⟩
theorem Rq(q rest third v w0 N:Nat)(w:World)(hq:q<=4294967295)(hr:rest<9223372036854775808)(ht:third<4294967296)(hv:v<4294967296)(hw:w0<4294967296)(hNq:N<=q)(iI:∀ x,x<N->sO q rest third v w0 x)(hN:¬sO q rest third v w0 N):
 Calls prog 400 #[.int .u64 q,.int .u64 rest,.int .u32 third,.int .u32 v,.int .u32 w0] w λe w'=>e = .returned (.int .u64 ((q-N:Nat):Int))/\w=w':=by
 have HLO:=aol iI;have HNN:=aol hN;clear iI hN;go_enter func400,ntmps400;go_wp2;go_loop [0,1] (λa b=>∃ k:Nat,k<=N/\a = .int .u64 ((q-k:Nat):Int)/\b = .int .u64 ((rest+k*v:Nat):Int)) (λa _=>(intOf a).toNat+0*N)
 case atStart=>exact⟨0,bN _,by go_num,by go_num⟩
 case round=>
  obtain⟨k,hk,rfl,rfl⟩:=hrel;have m1:(q-k)*w0<=4294967295*4294967295:=cL ae ae;have m2:(q-k)*w0=(q-k)*w0:=rfl;by_cases iE:k<N
  .have hc:=HLO.out k iE
   have tI:0<q-k:= ae ;have TO:rest+(k+1)*v=rest+k*v+v:=by rw[bL,bK];omega
   have HX:=aol TO;clear TO;unfold sO at hc;have y6:IntKind.u64.wrap (((q-k:Nat):Int)*(w0:Int))=(((q-k)*w0:Nat):Int):=by rw[<-dN];exact pE _ ae 
   generalize rest+k*v=y at *
   generalize hz:(q-k)*w0=z at *
   have Di:q-k=q-(k+1)+1:= ae ;have HQ:=aol Di;obtain⟨p,hp⟩:∃ p,p=q-k:=⟨_,rfl⟩
   rw[<-hp]at y6 tI Di HQ ⊢;have HP:=aol hp;have BI:p<=4294967295:= ae ;clear hp hz Di;have BK:=D3 y hc.1;have tG:=FY y third hc.1 ht;have g2:=hc.2;have g1:=hc.1;clear hc;rw[show((y*4294967296:Nat):Int)=y*4294967296 by omega]at tG BK;have d1:decide ((y:Int)<4294967296)=true:=aT ae;have d2:decide ((y:Int)*4294967296+(third:Int)<z)=true:=aT ae;have IN:IntKind.u64.wrap ((p:Int)-1)=((p-1:Nat):Int):=by rw[IntKind.wrap_u64];omega
   go_wp2;go_round
   case rel=>
    have e1:=HP.out;exact⟨k+1,ae,by go_num,by rw[HX.out];go_num⟩
   case measure=>simp[intOf];omega
  .obtain rfl:k=N:= ae 
   have hn:=HNN.out;clear HNN HLO;unfold sO at hn;have y6:IntKind.u64.wrap (((q-k:Nat):Int)*(w0:Int))=(((q-k)*w0:Nat):Int):=by rw[<-dN];exact pE _ ae 
   generalize rest+k*v=y at *
   generalize (q-k)*w0=z at *
   obtain⟨p,hp⟩:∃ p,p=q-k:=⟨_,rfl⟩
   rw[<-hp]at y6 ⊢;have HP:=aol hp;clear hp;by_cases g1:y<4294967296
   .have BK:=D3 y g1
    have tG:=FY y third g1 ht;rw[show((y*4294967296:Nat):Int)=y*4294967296 by omega]at tG BK;have d1:decide ((y:Int)<4294967296)=true:=aT ae;have d2:decide ((y:Int)*4294967296+(third:Int)<z)=false:=aU ae;clear hn;go_wp2;go_ret;exact⟨oE (by rw[<-HP.out]),rfl⟩
   .have d1:decide ((y:Int)<4294967296)=false:=aU ae 
    clear hn y6;go_wp2;go_ret;exact⟨oE (by rw[<-HP.out]),rfl⟩
theorem aeY(iw next third v w0:Nat)(hv:2147483648<=v)(rZ:v<4294967296)(hn:next<4294967296)(ht:third<4294967296)(hw:w0<4294967296)(htv:iw<=v):
 ∃ g,g<=4294967295/\g<=((iw*4294967296+next)*4294967296+third)/(v*4294967296+w0)/\(g=4294967295\/((iw*4294967296+next)*4294967296+third)/(v*4294967296+w0)<=g) /\
  ∀ w,Calls prog 377 #[.int .u32 iw,.int .u32 next,.int .u32 third,.int .u32 v,.int .u32 w0] w λe w'=>e = .returned (.int .u64 (g:Int))/\∃ m,w'=w.drewN m:=by
 by_cases k1:v<=iw
 .obtain ⟨N,hN3,mz,tA,sk,g1,g2⟩:=Rp (X:=iw*4294967296+next) (q:=4294967295) (rest:=(iw-v)*4294967296+next+v) (third:=third) (v:=v) (w:=w0) ae (aV _) hv hw
  refine⟨4294967295-N,ae,g1,g2.elim (λh=>.inl (by rw[h])) .inr,λw=>?_⟩;clear g1 g2;have H:=λw=>Rq 4294967295 ((iw-v)*4294967296+next+v) third v w0 N w ae ae ht rZ hw mz tA sk
  clear tA sk;obtain rfl:v=iw:= ae ;have uy:(v-v)*4294967296+next+v=next+v:= ae 
  rw[uy,ey]at H;have HD:=aol H;clear H;have d1:decide ((v:Int)<=v)=true:=aT ae;go_enter func377,ntmps377;go_wp2_with fail;refine(HD.out _).mono ?_;rintro e w' ⟨rfl,rfl⟩;go_wp2;go_ret;exact⟨rfl,0,rfl⟩
 .have d1:=bY (iw*4294967296+next) v
  have d2:=bh (iw*4294967296+next) (show 0<v by omega);have d3:(iw*4294967296+next)/v<4294967296:=by rw[bS ae];omega
  obtain⟨N,hN3,mz,tA,sk,g1,g2⟩:=Rp (X:=iw*4294967296+next) (q:=(iw*4294967296+next)/v) (rest:=(iw*4294967296+next)%v) (third:=third) (v:=v) (w:=w0) (by rw[bc];exact d1) ae hv hw;have g3:=acm (x:=iw*4294967296+next) (v:=v) (w:=w0) (third:=third) ae ht;refine⟨(iw*4294967296+next)/v-N,ae,g1,.inr ?_,λw=>?_⟩
  .rcases g2 with rfl|g2
   .exact g3
   .exact g2
  have H:=λw=>Rq ((iw*4294967296+next)/v) ((iw*4294967296+next)%v) third v w0 N w (Nat.le_of_lt_succ d3) (fm d2 ae) ht rZ hw mz tA sk
  rw[Int.natCast_ediv,Int.natCast_emod]at H;have HD:=aol H;clear H g1 g2 g3 mz tA sk d1 d2 d3;have d1:decide ((v:Int)<=iw)=false:=aU ae;have BK:=D3 iw ae;have tG:=FY iw next ae hn
  rw[show((iw*4294967296:Nat):Int)=iw*4294967296 by omega]at tG BK;have mw:((iw*4294967296+next:Nat):Int)<18446744073709551616:= ae ;rw[show((iw*4294967296+next:Nat):Int)=iw*4294967296+(next:Int)by omega]at tG mw;have rY:((v:Int)==0)=false:= av ;go_enter func377,ntmps377;go_wp2;go_quiet (exact Calls.quiet_of_same ((HD.out _).mono λ_ _ ⟨h1,h2⟩=>⟨h1,h2.symm⟩));go_wp2;go_ret;exact⟨rfl,_,rfl⟩
theorem Fp.iz.amt{w0 w w':World}{g n:Nat}(h:iz w0 w)(k:sM g (w.drewN n) w')(hg:w0.heap.size<=g):iz w0 w':=
 (below_drewN h n).trans (k.below.mono hg)
theorem Fp.iz.only{w0 w w':World}{g:Nat}(h:iz w0 w)(k:sM g w w')(hg:w0.heap.size<=g):iz w0 w':=
 Below.trans h (k.below.mono hg)
theorem Sl.Se{w:World}{g cap:Nat}{L:List Nat}(h:Sl w (some ⟨g,0,none⟩) cap L){b:Nat}(hb:g≠b)(i:Nat)(v:Value):Sl (w.setCell ⟨b,i,none⟩ v) (some ⟨g,0,none⟩) cap L:=
 h.pT (λb' o _ e=>by cases e;exact hb) (sM.Gq (sM.refl b w) i v)
theorem Sl.drewN{w:World}{A:Option Addr}{c:Nat}{L:List Nat}(h:Sl w A c L)(n:Nat):Sl (w.drewN n) A c L:=h.below (below_drewN (Below.refl _ _) n)
theorem aiA{P:Program}{f:FuncId}{args:Array Value}{w:World}{n:Nat}{v:Value}
 (h:Calls P f args (w.drewN n) λe w'=>e = .returned v/\∃ m,w'=(w.drewN n).drewN m):Calls P f args (w.drewN n) λe w''=>e = .returned v/\∃ m,w''=w.drewN m:=
 h.mono λ_ _ ⟨he,m,hm⟩=>⟨he,n+m,by rw[hm,World.drewN_drewN]⟩
set_option maxRecDepth 100000 in
set_option maxHeartbeats 8000000 in
theorem acy(A B:Option Addr)(c d:Nat)(L M:List Nat)(w:World)(lx ly s:Nat)(vC:lx=(il L).length)(IM:ly=(il M).length)(vF:s=32-ie ((il M).getD (ly-1) 0))(hs:Sl w A c L)(hr:Sl w B d M)(ks:Tb w)(h1:L.length<=100000)(h2:M.length<=100000)(pX:val M<=val L)(hlen:2<=ly):
 Calls prog 357 #[.slice A L.length c,.slice B M.length d] w (ZC w (iL (val L/val M) (lx+1-ly)) (qD (s%32) ((gV (val L%val M*2^s)).drop (s/32)))):=by
 have H1:=uH A c L w hs;have H2:=uH B d M w hr;have SS:=oO L;unfold lZ at SS;have vt:=oO M;unfold lZ at vt;have eL:=oG L;have eM:=oG M;rw[<-eL,<-eM]at pX ⊢;have kB:=hs.tW;have nE:=hr.tW;have LZ:=zP M;have S7:il (il L)=il L:=zP L;have Tc:il (il M)=il M:=zP M;have H3:=FN A B c d (il L) (il M) w kB nE ae ae;generalize il L=X at *
 generalize il M=Y at *
 have oM:0<=kf (val X) (val Y):=by unfold kf;split<;>(try split)<;>omega
 generalize kf (val X) (val Y)=cm at *
 have S9:Y.length<=X.length:=by
  apply bG;intro h;have:=Km kB.ok LZ (ae:X.length<Y.length);omega
 clear eL eM hs hr pX;rw[<-vC]at S9 H1 H3 SS;rw[<-IM]at S9 H2 H3 vt;have mw:Y.getD (ly-1) 0≠0:=by
  have:=(Bb Y).1 LZ ae;have e:Y.getD (ly-1) 0=Y[Y.length-1]'(ae):=by
   rw[aW,show ly-1=Y.length-1 by omega];simp[show Y.length-1<Y.length by omega]
  rw[e];exact this
 have HN:=ahS nE.ok (l:=ly-1) ae rfl mw vF;rw[show ly-1+1=ly by omega]at HN;obtain⟨x,hx⟩:∃ x,x=Y.getD (ly-1) 0:=⟨_,rfl⟩
 have mG:x<4294967296:=by rw[hx];exact nE.ok.getD _
 have H4:=aol (λw=>ag7 x mG w);rw[<-hx]at vF;rw[<-vF]at H4;obtain⟨ab,ao,rfl,hab,c1⟩:=nE.lp (i:=ly-1) ae;have I5:Y[ly-1]'(ae)=x:=by rw[hx];simp[aW,show ly-1<Y.length by omega]
 rw[I5]at c1;have afE:s<32:=HN.1;have HNh:=aol HN;have H5:=λw (h:Sl w A c X)=>VR A c X s w h ae ae 
 have H6:=λw (h:Sl w (some ⟨ab,ao,none⟩) d Y)=>VR (some ⟨ab,ao,none⟩) d Y s w h ae ae 
 rw[S7,<-vC,show s/32+lx+1=lx+1 by omega]at H5;rw[Tc,<-IM,show s/32+ly+1=ly+1 by omega]at H6;have H5h:=aol H5;have H6h:=aol H6;have HX:=aol vC;have HY:=aol IM;have HS2:=aol kB;have HR2:=aol nE;have H1h:=aol H1;have H2h:=aol H2;have H3h:=aol H3;clear H1 H2 H3 H5 H6 S7 Tc HN vC IM hx I5 vF mw kB nE LZ;have y6:(ly:Int)-1=((ly-1:Nat):Int):= ae ;have d0:decide (cm<0)=false:=aU ae;have d2:decide ((lx:Int)+1<=(lx:Int))=false:=aU ae;have pf:=DB (lx+1-ly) ae;rw[show((lx+1-ly:Nat):Int)=lx+1-(ly:Int)by omega]at pf;have d1:((ly:Int)==1)=false:= av ;go_enter func357,ntmps357;go_wp2_with fail;refine H1h.out.mono ?_;rintro e w' ⟨rfl,rfl⟩;go_wp2_with fail;refine H2h.out.mono ?_;rintro e w' ⟨rfl,rfl⟩;go_wp2_with fail;refine H3h.out.mono ?_;rintro e w1 ⟨rfl,jb⟩;have c2:=c1;rw[<-(jb.cell (p:=⟨ab,ao+(ly-1),none⟩) hab)]at c2;go_wp2_with fail;refine(H4.out _).mono ?_;rintro e w2 ⟨rfl,rfl⟩;go_wp2_with fail;refine(H5h.out _ (HS2.out.below jb)).mono ?_;rintro e w2 ⟨T,v1,he,C4,Bu,lk,mn⟩;obtain⟨g,cap,R,xN,Tx,Ty,SZ,C8,afg⟩:=lk.rx (by intro h;rw[h]at Bu;simp at Bu);have S4:=aol lk.ok;rw[Bu]at xN C8;subst xN;subst he;clear lk;have HTv:=aol C4;have HTl:=aol Bu;clear C4 Bu;go_wp2_with fail;refine(H6h.out _ ((HR2.out.below jb).below mn)).mono ?_;rintro e w3 ⟨S,v2,he,S3,Bt,lk,pz⟩;have Iy:=SZ.qn (pz.block g Ty);obtain⟨g',cap',R',rZ,afl,anx,_,anw,_⟩:=lk.rx (by intro h;rw[h]at Bt;simp at Bt);obtain⟨_,_,e2,L5⟩:=lk.sl;rw[rZ]at e2;cases e2;have IE:g'≠g:= ae 
 have H7:=uH (some ⟨g',0,none⟩) cap' S w3 L5;have hV:il S=gV (val Y*2^s):=by rw[qE lk.ok,S3]
 have yN:=L5.tW;rw[hV]at H7 yN;rw[HNh.out.2.1,Bt]at H7;rw[Bt]at rZ;have afd:iz w w3:=(jb.trans mn).trans pz;subst rZ;subst he;have H7h:=aol H7;clear lk L5 hV S3 Bt H7 SZ mn pz;go_wp2_with fail;refine H7h.out.mono ?_;rintro e w4 ⟨rfl,rfl⟩;go_wp2;go_loop [9] (λu=>u = .slice (some ⟨g,0,none⟩) (lx+1) cap) (λ_=>0)
 case atStart=>rfl
 case round=>
  subst hrel;go_wp2;have vu:=Rw.xS w3 (lx+1-ly);have IS:=HNh.out.2.1;have tA:=HNh.out.2.2.1;have sk:=HNh.out.2.2.2.1;have S5:=kE (val Y*2^s);have Mb:=jC (val Y*2^s);rw[<-Mb]at sk;generalize gV (val Y*2^s)=V at *
  have xD:=se.start (A:=val X) (s:=s) (V:=V) (O:=T) S4.out HTv.out (la:=lx) (by rw[HX.out];exact mh HS2.out.ok) HTl.out afE ae ae (by rw[IS];exact sk);have S2:=yN.alloc (.cells (oj (List.replicate (lx+1-ly) 0)).toArray 150);have S1:Rx (w3.alloc (.cells (oj (List.replicate (lx+1-ly) 0)).toArray 150)) g T R:=Iy.qn ((iz.alloc w3 _).block g (by have:=Iy.lt;omega));rw[IS]at xD;have HD0:=aol xD;have HR0:=aol vu;have HRx:=aol S1;have HSV:=aol S2;have HE0:=aol (afd.trans (iz.alloc w3 (.cells (oj (List.replicate (lx+1-ly) 0)).toArray 150)));have HnV:=aol IS;have HVok:=aol S5;have HVv:=aol Mb;have HN1:=aol tA;have hgq:g<w3.heap.size:=Iy.lt;have TA:w.heap.size<=g:=aY jb.size Tx;clear xD vu S1 S2 yN Iy IS S5 Mb tA sk HTv HTl S4 H1h H2h H3h H4 H5h H6h H7h c1 c2 d2 pf jb Tx afl Ty HNh HS2 HR2;go_loopw [13] (λj wr=>∃ (k:Nat) (O Q:List Nat),k<=lx+1-ly/\j = .int .i64 ((k:Int)-1)/\se (val X*2^s) V k (lx+1) O Q/\Rx wr g O R/\Rw wr w3.heap.size Q/\Sl wr (some ⟨g',0,none⟩) cap' V/\iz w wr) (λj _=>(intOf j+1).toNat)
  case atStart=>
   exact⟨lx+1-ly,T,_,aV _,by go_num,HD0.out,HRx.out,HR0.out,HSV.out,HE0.out⟩
  case round=>
   clear HD0 HRx HR0 HSV HE0;obtain⟨k,O,Q,hk,rfl,hD,C3,L4,yN,Tk⟩:=hrel;have HE:=aol Tk;have HSV:=aol yN;have HRQ:=aol L4;have HRO:=aol C3;have HD:=aol hD;clear hD Tk;rcases k with _|t
   .have hO:=HD.out.UW
    have TZ:=HRO.out.sl HD.out.zz (cap:=cap) ae afg ly;have HZ:=NH (some ⟨g,0,none⟩) cap (O.take ly) s wr TZ aE ae;have e1:(O.take ly).length=ly:=by rw[b8];omega
    rw[e1]at HZ;have HZh:=aol HZ;have HQs:=aol (HRQ.out.sl HD.out.B5 (by rw[HD.out.Fy];omega));have wJ:0<val V:=by
     have:=HD.out.lt;rcases eh (val V)with h|h
     .rw [h,cr]at this;omega
     .exact h
    have S8:0<val Y:=by
     rw[HVv.out]at wJ;exact Nat.pos_of_mul_pos_right wJ
    have Mo:=acv (a:=val X) (b:=val Y) (s:=s) (q:=val Q) (r:=val O) S8 (by rw[<-HVv.out];exact HD.out.eq) (by rw[<-HVv.out];have:=HD.out.lt;rw[bO,bQ]at this;exact this);have Av:val (O.take ly)=val O:=by
     rw[amV HD.out.zz,bC];have:=HD.out.lt;rw[bO,bQ]at this;refine fm this ?_;have h:=mh HVok.out;rw[HnV.out]at h;exact h
    have SU:il (O.take ly)=gV (val X%val Y*2^s):=by rw[qE (HD.out.zz.take ly),Av,Mo.2]
    rw[SU]at HZh;have Iw:=HD.out.Fy;rw[HnV.out]at Iw;have SX:iL (val X/val Y) (lx+1-ly)=Q:=CO HD.out.B5 Iw Mo.1;have HQd:=aol SX;generalize qD (s%32) ((gV (val X%val Y*2^s)).drop (s/32))=Z at *
    have HQl:=aol Iw;clear Mo Av SU SX TZ HZ e1 Iw hO wJ S8 yN C3 L4;go_wp2_with fail;refine HZh.out.mono ?_;rintro e w5 ⟨AZ,cZ,rfl,hZs,Td⟩;go_wp2;go_ret2;have hq:=HQs.out.below Td;rw[HQl.out]at hq;exact⟨_,_,_,_,by rw[mK];rfl,by rw[HQd.out];exact hq,hZs,HE.out.trans Td⟩
   .have hO:=HD.out.UW
    have c4:=C3.cell (i:=t+ly) ae;have c5:=C3.cell (i:=t+ly-1) ae;have c6:=C3.cell (i:=t+ly-2) ae;obtain⟨_,_,e1,_,c7⟩:=yN.lp (i:=ly-1) (by rw[HnV.out];omega);obtain⟨_,_,e2,_,c8⟩:=yN.lp (i:=ly-2) (by rw[HnV.out];omega);cases e1;cases e2;rw[bX]at c7 c8;have v7:V[ly-1]'(by rw[HnV.out];omega)=V.getD (ly-1) 0:=by simp[aW,HnV.out,show ly-1<ly by omega]
    have v8:V[ly-2]'(by rw[HnV.out];omega)=V.getD (ly-2) 0:=by simp[aW,HnV.out,show ly-2<ly by omega]
    rw[v7]at c7;rw[v8]at c8;clear v7 v8;have k0:=HD.out.zz;have o4:=k0.getD (t+ly);have o5:=k0.getD (t+ly-1);have o6:=k0.getD (t+ly-2);have o7:=HVok.out.getD (ly-1);have o8:=HVok.out.getD (ly-2);have hG:=HD.out.aeX HVok.out (by rw[HnV.out];omega) (by rw[HnV.out];exact HN1.out);rw[HnV.out]at hG;obtain⟨gd,g1,g2,g3,g4⟩:=aeY (O.getD (t+ly) 0) (O.getD (t+ly-1) 0) (O.getD (t+ly-2) 0) (V.getD (ly-1) 0) (V.getD (ly-2) 0) HN1.out o7 o5 o6 o8 hG.1;have HGq:=aol (hG.2 gd g1 g2 g3);have HG:=aol g4;clear hG g2 g3 g4 k0 yN C3 L4;generalize O.getD (t+ly) 0=x4 at *
    generalize O.getD (t+ly-1) 0=x5 at *
    generalize O.getD (t+ly-2) 0=x6 at *
    have HV1:=aol (rfl:V.getD (ly-1) 0=V.getD (ly-1) 0);generalize hx7:V.getD (ly-1) 0=x7 at *
    generalize V.getD (ly-2) 0=x8 at *
    clear hx7 HV1;have i1:(((t+1:Nat):Int)-1)=(t:Int):= ae ;have i2:((t:Int)+ly).toNat=t+ly:= ae ;have i3:((t:Int)+ly-1).toNat=t+ly-1:= ae ;have i4:((t:Int)+ly-2).toNat=t+ly-2:= ae ;have i6:((ly:Int)-2)=((ly-2:Nat):Int):= ae ;have p1:IntKind.i64.wrap ((t:Int)+ly)=(t:Int)+ly:=i64_in _ ae ae;have p2:IntKind.i64.wrap ((t:Int)+ly-1)=(t:Int)+ly-1:=i64_in _ ae ae;have p3:IntKind.i64.wrap ((t:Int)+ly-2)=(t:Int)+ly-2:=i64_in _ ae ae;have p4:IntKind.i64.wrap ((ly-1:Nat):Int)=((ly-1:Nat):Int):=i64_in _ ae ae;have p5:IntKind.i64.wrap ((ly-2:Nat):Int)=((ly-2:Nat):Int):=i64_in _ ae ae;have j6:((ly-1:Nat):Int)<ly:= ae ;have j7:((ly-2:Nat):Int)<ly:= ae ;have j0:0<=(t:Int)+ly:= ae ;have j1:0<=(t:Int)+ly-1:= ae ;have j2:0<=(t:Int)+ly-2:= ae ;have j3:(t:Int)+ly<lx+1:= ae ;have j4:(t:Int)+ly-1<(lx:Int)+1:= ae ;have j5:(t:Int)+ly-2<(lx:Int)+1:= ae ;rw[i1];clear i1;go_wp2;go_quiet (exact aiA (HG.out _));go_wp2_with fail;have HTk:=al0 g t (cap-t) cap' gd O V R (some ⟨g',0,none⟩) (wr.drewN nq) (HRO.out.qn rfl) (HSV.out.drewN nq) (λb' o _ e=>by cases e;exact IE) HD.out.zz (by rw[HnV.out];omega) g1 ae;rw[HnV.out,show ly+1=t+ly+1-t by omega]at HTk;refine HTk.mono ?_;rintro e w5 ⟨O',δ,rfl,SY,pM,Dg,hδ,kW,I1,Dh⟩;have HRO':=aol SY;have HON:=aol Dh;have HSV5:=aol ((HSV.out.drewN nq).pT (λb' o _ e=>by cases e;exact IE) Dh);have HRQ5:=aol (show Rw w5 w3.heap.size Q from(Dh.pT _ ae).trans HRQ.out);have HE5:=aol (show iz w w5 from Fp.iz.amt HE.out Dh TA);have hPt:=pw t;have S6:0<val V:=by
     have:=HD.out.lt;rcases eh (val V)with h|h
     .rw [h,cr]at this;omega
     .exact h
    have wg:IntKind.u32.wrap (gd:Int)=gd:=by rw[IntKind.wrap_u32];omega
    have htm:(t:Int)<lx+1-(ly:Int):= ae ;have T7:t<Q.length:=by rw[HD.out.Fy,HnV.out];omega
    have L3:=bg T7;have cq:=HRQ5.out.cell L3;have fq:=HRQ5.out.frozen t;generalize Q[t]=q0 at *
    have HQG:=aol L3;clear L3 T7 c4 c5 c6 c7 c8 HRO HRQ HSV HE HTk SY Dh;rcases dK δ 1 with Uo|hδ1
    .obtain rfl:δ=0:= ae 
     have SP:=Rs hPt S6 (by rw[kW,cv,bB]) HGq.out.1;have HDS:=aol (HD.out.step (x:=gd) (by rw[HnV.out];omega) (by rw[pM,hO]) Dg ae (by rw[kW,cv,bB]) SP.2);clear SP kW I1 Dg pM HD HGq;have HRQ6:=aol (λx:Nat=>HRQ5.out.set t x);have HRO6:=aol (λv:Value=>HRO'.out.qn (w':=w5.setCell ⟨w3.heap.size,t,none⟩ v) (by simp only[World.setCell,eK];rw[aR ae]));have HSV6:=aol (λv:Value=>HSV5.out.Se (b:=w3.heap.size) ae t v);have HE6:=aol (λv:Value=>HE5.out.setCell (p:=⟨w3.heap.size,t,none⟩) (by show w.heap.size<=w3.heap.size;omega) v);go_wp2;go_roundw
     case rel=>exact⟨t,O',Q.set t gd,ae,by go_num,HDS.out,HRO6.out _,HRQ6.out _,HSV6.out _,HE6.out _⟩
     case measure=>simp[intOf]
    .obtain rfl:δ=1:= ae 
     have tH:=HD.out.Wc (x:=gd) HVok.out Dg (by rw[HnV.out];exact kW) (by rw[HnV.out];exact I1);have BA:=tH.2;have HB:=aol (λ(κ:Nat) (O2:List Nat)=>HD.out.aaF (x:=gd) (κ:=κ) (O2:=O2) HVok.out (by rw[HnV.out];omega) Dg (by rw[HnV.out];exact kW) (by rw[HnV.out];exact I1) g1 HGq.out.2 S6);have HP0:=aol (xr.start Dg t V);have TH:O'.length=lx+1:=by rw[pM,hO]
     have HL':=aol TH;have hxm:IntKind.u64.wrap ((gd:Int)-1)=((gd-1:Nat):Int):=by rw[IntKind.wrap_u64];omega
     have wg1:IntKind.u32.wrap ((gd-1:Nat):Int)=((gd-1:Nat):Int):=by rw[IntKind.wrap_u32];omega
     clear tH kW I1 Dg pM TH HD HGq wg cq fq;go_wp2;go_loopw [15,125] (λcy i wr2=>∃ (k c':Nat) (O2:List Nat),k<=ly/\i = .int .i64 k/\cy = .int .u32 c'/\xr O' t V k O2 c'/\Rx wr2 g O2 R/\sM g w5 wr2) (λ_ i _=>ly-(intOf i).toNat)
     case atStart=>exact⟨0,0,O',bN _,rfl,rfl,HP0.out,HRO'.out,sM.refl _ _⟩
     case round=>
      clear HP0 HRO';obtain⟨k,c',O2,sV,rfl,rfl,hP,Ar,E6⟩:=hrel;have HP:=aol hP;have ET:=hP.KZ;have nD:O2.length=lx+1:=by rw[hP.len];exact HL'.out
      have HL2:=aol nD;clear hP;by_cases iE:k<ly
      .have yW:k<V.length:=by rw[HnV.out];exact iE
       obtain⟨_,_,e1,_,c1⟩:=(HSV5.out.pT (λb' o _ e=>by cases e;exact IE) E6).lp yW;cases e1;rw[bX]at c1;have v7:V[k]=V.getD k 0:=by simp[aW,yW]
       rw[v7]at c1;have pY:t+k<O2.length:= ae ;have c2:=Ar.cell pY;have c3:=Ar.frozen (t+k);have pC:V.getD k 0<4294967296:=HVok.out.getD k;have Fi:O2.getD (t+k) 0<4294967296:=HP.out.ok.getD _;have HST:=aol (HP.out.step HVok.out yW (by rw[HL'.out,HnV.out];omega));have HRS:=aol (λx:Nat=>Ar.set pY x);have HOS:=aol (λ(v:Value)=>E6.Gq (t+k) v);have HA:=aol (λw=>Eh (O2.getD (t+k) 0) (V.getD k 0) c' w Fi pC ET);clear Ar E6 HP v7 yW pY nD HL2;generalize O2.getD (t+k) 0=u at *
       generalize V.getD k 0=y at *
       have xK:((t:Int)+k).toNat=t+k:= ae ;have wQ:0<=(t:Int)+k:= ae ;have TC:(t:Int)+k<lx+1:= ae ;go_wp2_with fail;refine(HA.out _).mono ?_;rintro e w6 ⟨rfl,rfl⟩;go_wp2;go_roundw
       case rel=>
        exact⟨k+1,(u+y+c')/4294967296,O2.set (t+k) ((u+y+c')%4294967296),ae,by go_num,rfl,HST.out,HRS.out _,HOS.out _⟩
       case measure=>simp[intOf];omega
      .obtain rfl:k=ly:= ae 
       have Iu:=(show xr O' t V V.length O2 c' by rw[HnV.out];exact HP.out).No (by rw[HL'.out,HnV.out];omega);rw[HnV.out]at Iu;obtain⟨q1,q2,⟨κ,q3,q4⟩,q5⟩:=Iu;have pY:t+k<O2.length:= ae ;have c2:=Ar.cell pY;have c3:=Ar.frozen (t+k);have Fi:O2.getD (t+k) 0<4294967296:=HP.out.ok.getD _;have HDS:=aol (HB.out κ _ (by rw[q1];exact HL'.out) q2 q3 (by rw[HnV.out];exact q4) (by rw[HnV.out];exact q5));have HRS:=aol (λx:Nat=>Ar.set pY x);have HOS:=aol (λ(v:Value)=>E6.Gq (t+k) v);have Ix:∀ v:Value,Rw (wr.setCell ⟨g,t+k,none⟩ v) w3.heap.size Q:=λv=>((HOS.out v).pT _ ae).trans HRQ5.out
       have hcq:∀ v:Value,(wr.setCell ⟨g,t+k,none⟩ v).cell? ⟨w3.heap.size,t,none⟩=some (.int .u32 (q0:Int)):=λv=>(Ix v).cell HQG.out
       have hfq:∀ v:Value,(wr.setCell ⟨g,t+k,none⟩ v).frozen? ⟨w3.heap.size,t,none⟩=false:=λv=>(Ix v).frozen t
       have HRQ8:=aol (λ(v:Value) (x:Nat)=>(Ix v).set t x);have HRO8:=aol (λ(x:Nat) (v:Value)=>(HRS.out x).qn (w':=(wr.setCell ⟨g,t+k,none⟩ (.int .u32 (x:Int))).setCell ⟨w3.heap.size,t,none⟩ v) (by simp only[World.setCell,eK];rw[aR ae]));have HSV8:=aol (λ(v v2:Value)=>(HSV5.out.pT (λb' o _ e=>by cases e;exact IE) (HOS.out v)).Se (b:=w3.heap.size) ae t v2);have HE8:=aol (λ(v v2:Value)=>(Fp.iz.only HE5.out (HOS.out v) TA).setCell (p:=⟨w3.heap.size,t,none⟩) (by show w.heap.size<=w3.heap.size;omega) v2);clear Ix HRS HOS Ar E6 HP q1 q2 q3 q4 q5 pY nD HL2;generalize O2.getD (t+k) 0=u at *
       have xK:((t:Int)+k).toNat=t+k:= ae ;have wQ:0<=(t:Int)+k:= ae ;have TC:(t:Int)+k<lx+1:= ae ;have hi4:IntKind.u32.wrap ((u:Int)+c')=(((u+c')%4294967296:Nat):Int):=by rw[IntKind.wrap_u32];omega
       generalize (u+c')%4294967296=uu at *
       go_wp2;go_roundw
       case rel=>exact⟨t,O2.set (t+k) uu,Q.set t (gd-1),ae,by go_num,HDS.out,HRO8.out _ _,HRQ8.out _ _,HSV8.out _ _,HE8.out _ _⟩
       case measure=>simp[intOf]
theorem alj:E.le (.v (.slice none 0 0)) (gY []):=λbs br w v h=>by
 obtain rfl:=iH.kP h;exact .sl false 0 1 _ none 0 (λ_ _=>undef) (aV _) ag (λ_=>rfl) (λi j hi=>absurd hi (bk i)) (λi j hi=>absurd hi (bk i)) (λi j hi=>absurd hi (bk i)) (λi j hi=>absurd hi (bk i))
theorem alk{x:Nat}:E.le (.sl false 1 1 λi_ j_=>[(.v (.int .u32 (x:Int)))].getD (i_*1+j_) (.v (.bool false))) (gY [x]):=.sl λi j hi hj=>by
 obtain rfl:i=0:= ae ;obtain rfl:j=0:= ae ;exact⟨.refl _,rfl⟩
theorem Q2(L:List Nat)(hk:iD L):gW 302 [gY L] (gY L):=F0 hk call302 (λA c w h _=>K6 A c L w h) λA c B w e w' h hB ⟨h1,h2⟩=>by
 subst h2;exact⟨_,h1,Below.refl _ _,yg hB (Below.refl _ _) ⟨aV _,h.len,h.ok,λhn=>by have:=h.xh hn;have:=h.cap;omega,h.cell⟩⟩
theorem Q4(L:List Nat)(hk:iD L)(hl:L.length<=1000000):gW 244 [gY L] (gY L):=F0 hk call244 (λA c w h _=>K7 A c L w h ae) λA c B w e w' h hB r=>rl B w e w' hB r
theorem aho(L M:List Nat)(hL:iD L)(hM:iD M)(h1:L.length<=100000)(h2:M.length<=100000)(hc:kf (val (il L)) (val (il M))<0):gW 357 [(gY L),(gY M)] (.ix [gY [],gY (il L)]):=by
 have ta:=oO L;have tb:=oO M;unfold lZ at ta tb;exact tr true call357 func357 (chain [.c (tS _ af:gW 274 [(gY L)] _),.c (tS _ af:gW 274 [(gY M)] _),.c (NB _ _ (iD.il af) (iD.il af) ae ae:gW 220 [(gY (il L)),(gY (il M))] _),tB 25 (aT hc),.c (Q4 _ (iD.il af) ae:gW 244 [(gY (il L))] _)]<|rR (.ix [gY [],gY (il L)]) (.ix (.cons alj (.cons (.refl _) .nil)):E.le (.ix [(.v (.slice none 0 0)),(gY (il L))]) (.ix [gY [],gY (il L)]))) ah 
theorem ahp(L M:List Nat)(hL:iD L)(hM:iD M)(h1:L.length<=100000)(h2:M.length<=100000)(hc:¬kf (val (il L)) (val (il M))<0)(hl:(il M).length=1)(vv:0<(il M).getD 0 0)(tD:(il M).getD 0 0<4294967296):gW 357 [(gY L),(gY M)] (.ix [gY (iL (val (il L)/(il M).getD 0 0) (il L).length),gY [val (il L)%(il M).getD 0 0]]):=by
 have ta:=oO L;have tb:=oO M;unfold lZ at ta tb;exact tr true call357 func357 (chain [.c (tS _ af:gW 274 [(gY L)] _),.c (tS _ af:gW 274 [(gY M)] _),.c (NB _ _ (iD.il af) (iD.il af) ae ae:gW 220 [(gY (il L)),(gY (il M))] _),tB 25 (aU hc),tB 30 (by rw[hl];rfl:(((il M).length:Int)==1)=true),iX (0) ((il M).length) ae,.c (ahv (il L) ((il M).getD 0 0) (iD.il af) ae vv tD)]<|rR (.ix [gY (iL (val (il L)/(il M).getD 0 0) (il L).length),gY [val (il L)%(il M).getD 0 0]]) (.ix (.cons (.refl _) (.cons alk .nil)):E.le (.ix [(gY (iL (val (il L)/((il M).getD 0 0)) (il L).length)),(.sl false 1 1 λi_ j_=>[(.v (.int .u32 (((val (il L)%((il M).getD 0 0)):Nat):Int)))].getD (i_*1+j_) (.v (.bool false)))]) (.ix [gY (iL (val (il L)/(il M).getD 0 0) (il L).length),gY [val (il L)%(il M).getD 0 0]]))) ah 
theorem NC(L M:List Nat)(hL:iD L)(hM:iD M)(h1:L.length<=100000)(h2:M.length<=100000)(h0:val M≠0):∃ T S:List Nat,gW 357 [gY L,gY M] (.ix [gY T,gY S])/\val T=val L/val M/\val S=val L%val M/\iD T/\iD S/\T.length<=L.length/\S.length<=L.length+1:=by
 have ta:=oO L;have tb:=oO M;unfold lZ at ta tb;have e1:=oG L;have e2:=oG M;by_cases hc:kf (val (il L)) (val (il M))<0
 .refine ⟨[],il L,aho L M hL hM h1 h2 hc,?_,?_,iD.nil,hL.il,bN _,ae⟩
  .rw [e1,e2]at hc
   have:val L<val M:=by unfold kf at hc;split at hc<;>(try split at hc)<;>omega
   rw[bW this];rfl
  .rw [e1,e2]at hc
   have:val L<val M:=by unfold kf at hc;split at hc<;>(try split at hc)<;>omega
   rw[bC this,e1]
 .have pX:val M<=val L:=by rw[e1,e2]at hc;unfold kf at hc;split at hc<;>(try split at hc)<;>omega
  have jJ:il M≠[]:=by intro h;rw[h]at e2;exact h0 e2.symm
  have hlen:(il M).length≠0:=by simpa using jJ
  by_cases hl:(il M).length=1
  .obtain ⟨x,hx⟩:=List.length_eq_one_iff.1 hl
   have k0:=hM.il;rw[hx]at k0;have Ui:x=val M:=by rw[<-e2,hx];simp[val]
   have hg:(il M).getD 0 0=x:=by rw[hx];rfl
   have:=ahp L M hL hM h1 h2 hc hl (by rw[hg];omega) (by rw[hg];exact k0.head);rw[hg]at this;refine⟨_,_,this,?_,?_,sj _ _,iD.cons (fm (bh _ ae) k0.head) iD.nil,by rw[mK];exact ta,aj⟩
   .rw [uV,bC,e1,Ui]
    exact bR (bD _ _) (mh hL.il)
   .simp [val,e1,Ui]
  .refine ⟨_,_,AS hL hM call357 (λA c B d w h k hT=>acy A B c d L M w _ _ _ rfl rfl rfl h k hT h1 h2 pX ae) (λB w e w' hB ⟨A1,c1,B1,d1,q1,q2,q3,q4⟩=>⟨_,q1,q4,ku.ix (.cons (yg hB q4 q2) (.cons (yg hB q4 q3) (.nil _ _ _)))⟩),?_,?_,sj _ _,AO _ _,?_,?_⟩
   .rw [uV,bC]
    rw[bS ae];have g1:=mh hL.il;rw[e1]at g1;refine bF g1 ?_;obtain⟨l,pM⟩:∃ l,(il M).length=l+1:=⟨(il M).length-1,ae⟩
    have g2:4294967296^l<=val M:=by
     apply bG;intro q;have q2:(gV (val M)).length<=l:=rj ae;rw[<-qE hM]at q2;omega
    have g3:=cg (4294967296^((il L).length+1-(il M).length)) g2;rw[<-aX]at g3;refine aY ?_ g3;exact bj ag ae 
   .rw [Ko (kE _),jC,dv _ (aZ ag)]
   .rw [mK];omega
   .rw [J2,eu]
    have hb:32-ie ((il M).getD ((il M).length-1) 0)<33:= ae ;have:=agW (kE (val L%val M)) (32-ie ((il M).getD ((il M).length-1) 0));rw[jC]at this;have h3:(gV (val L%val M)).length<=(gV (val L)).length:=me (dp _ _);rw[<-qE hL]at h3;omega
theorem zo(m n:Nat)(h1:(gV m).length<=256)(h2:(gV n).length<=256)(h0:n≠0):gW 307 [gY (gV m),gY (gV n)] (.ix [gY (gV (m/n)),gY (gV (m%n)),iP 0]):=by
 obtain⟨T,S,EU,hT,hS,oT,oS,_,_⟩:=NC (gV m) (gV n) (kE m) (kE n) ae ae (by rw[jC];exact h0);rw[jC,jC]at hT hS;have hz:il (gV n)=gV n:=tX n;have hl:=pU h0;have nD:(((il (gV n)).length:Int)==0)=false:=by rw[hz];exact nv hl
 exact tr true call307 func307 (chain [.c (VI (gV m) (gV n) af af),.c (tS _ (kE _):gW 274 [(gY (gV n))] _),tB 18 (nD:(((il (gV n)).length:Int)==0)=false),.c (EU:gW 357 [(gY (gV m)),(gY (gV n))] _),.c (tS _ af:gW 274 [(gY T)] _),.c (Q2 _ (iD.il af):gW 302 [(gY (il T))] _),.c (tS _ af:gW 274 [(gY S)] _),.c (Q2 _ (iD.il af):gW 302 [(gY (il S))] _)]<|rQ (.ix [(gY (il T)),(gY (il S)),(iP 0)]) (.ix [gY (gV (m/n)),gY (gV (m%n)),iP 0]) (by rw[qE oT,qE oS,hT,hS])) ah 
theorem W8(a b:Dy)(p:Nat)(up:Bool)(ha:a.ic)(hb:b.ic)(b0:b.m≠0)(im:8<=p)(ia:p<=512):gW 269 [(gZ a),(gZ b),(iP p),(bP up)] (.ix [gZ (kx a b p up),iP (nm a b p up)]):=by
 by_cases a0:a.m=0
 .have e1:kx a b p up=jA/\nm a b p up=0:=by unfold kx nm;rw[aS a0,aS a0];exact⟨rfl,rfl⟩
  exact tr true call269 func269 (chain [.o 18 (.e (wE _ _):PV.le (.e (.sl true 2 3 λi_ j_=>(jr a++jr b).getD (i_*3+j_) (.v (.bool false)))) (.e (nC [a,b]))),.c (xi _ _ _ af af ae ae:gW 280 [(iP p),(nC [a,b])] _),tB 21 (ag:((0:Int) != 0)=false),tB 28 (nv (pU b0):(((gV b.m).length:Int)==0)=false),tB 34 (r7 (qZ.2 a0):(((gV a.m).length:Int)==0)=true),.o 35 (.e wa:PV.le (.e (.agg [(bP false),(.v (.slice none 0 0)),(iP 0)])) (.e (gZ jA)))]<|rQ (.ix [(gZ jA),(iP 0)]) (.ix [gZ (kx a b p up),iP (nm a b p up)]) (by rw[e1.1,e1.2])) ah 
 .have va:=ha.gV
  have vb:=hb.gV;have xa:=ha.exp;have xb:=hb.exp;have ra:=ha.range.resolve_left a0;have rb:=hb.range.resolve_left b0;have pa:=mY a0;have pb:=mY b0;have hK:kq a b p 3=p+3+ie b.m-ie a.m:=rfl;have bs:=qt a0 (kq a b p 3);have z1:(gV (a.m*2^kq a b p 3)).length<=256:=ns ae;have hq:=Lf a0 b0 p 3 ag;have q0:a.m*2^kq a b p 3/b.m≠0:=by intro q;rw[q,q8]at hq;omega
  have z2:(gV (a.m*2^kq a b p 3/b.m)).length<=256:=ns (by have:=tk (bD (a.m*2^kq a b p 3) b.m);omega);have z3:(gV (a.m*2^kq a b p 3%b.m)).length<=256:=ns (by have:=tk (cX (bh (a.m*2^kq a b p 3) (dE b0)));omega);have jK:decide (0<(ie (a.m*2^kq a b p 3%b.m):Int))=decide (a.m*2^kq a b p 3%b.m≠0):=by
   by_cases h:a.m*2^kq a b p 3%b.m=0
   .rw [h,q8];rfl
   .have:=mY h
    rw[aT h,aT ae]
  obtain⟨d1,d2⟩:=acw a0 b0 p up;have h0:a.m*2^kq a b p 3/b.m≠0\/a.m*2^kq a b p 3/b.m=0/\a.e-(kq a b p 3:Int)-b.e=0/\decide (0<(ie (a.m*2^kq a b p 3%b.m):Int))=false:=.inl q0;have hm:decide (0<(ie (a.m*2^kq a b p 3%b.m):Int))=true->p<ie (a.m*2^kq a b p 3/b.m):=λ_=>hq
  exact tr true call269 func269 (chain [.o 18 (.e (wE _ _):PV.le (.e (.sl true 2 3 λi_ j_=>(jr a++jr b).getD (i_*3+j_) (.v (.bool false)))) (.e (nC [a,b]))),.c (xi _ _ _ af af ae ae:gW 280 [(iP p),(nC [a,b])] _),tB 21 (ag:((0:Int) != 0)=false),tB 28 (nv (pU b0):(((gV b.m).length:Int)==0)=false),tB 34 (nv (pU a0):(((gV a.m).length:Int)==0)=false),iu ((p:Int)+3) ae,.c (Hw _ af:gW 306 [(gZ b)] _),iu (((p:Int)+3)+(ie (Dy.m b):Int)) ae,.c (Hw _ af:gW 306 [(gZ a)] _),
   iu ((((p:Int)+3)+(ie (Dy.m b):Int))-(ie (Dy.m a):Int)) ae,.o 44 (.int au:PV.le (.e (iP (if((((p:Int)+3)+(ie (Dy.m b):Int))-(ie (Dy.m a):Int))>0 then((((p:Int)+3)+(ie (Dy.m b):Int))-(ie (Dy.m a):Int))else 0))) (.e (iP (kq a b p 3:Int)))),.c (vV a.m (kq a b p 3) ae ae ae),.c (zo _ _ ae ae af:gW 307 [(gY (gV (a.m*2^(kq a b p 3)))),(gY (gV b.m))] _),
   iu (a.e-(kq a b p 3:Int)) ae,iu ((a.e-(kq a b p 3:Int))-b.e) ae,.c (sC _ ae:gW 294 [(gY (gV ((a.m*2^(kq a b p 3))%b.m)))] _),.c (Gg (! (a.neg==b.neg)) ((a.m*2^(kq a b p 3))/b.m) ((a.e-(kq a b p 3:Int))-b.e) (decide (0<(ie ((a.m*2^(kq a b p 3))%b.m):Int))) up p ae af ae ae ae ae af)]<|rQ (.ix [(gZ (jR (!(a.neg==b.neg)) ((a.m*2^(kq a b p 3))/b.m) ((a.e-(kq a b p 3:Int))-b.e) (decide (0<(ie ((a.m*2^(kq a b p 3))%b.m):Int))) p up)),(iP (jH (!(a.neg==b.neg)) ((a.m*2^(kq a b p 3))/b.m) ((a.e-(kq a b p 3:Int))-b.e) (decide (0<(ie ((a.m*2^(kq a b p 3))%b.m):Int))) p up))]) (.ix [gZ (kx a b p up),iP (nm a b p up)]) (by rw[<-d1,<-d2,<-jK];rfl)) ah 
theorem W6(a b:Dy)(p:Nat)(ha:a.ic)(hb:b.ic)(b0:b.m≠0)(im:8<=p)(ia:p<=512):gW 209 [(gZ a),(gZ b),(iP p)] (.ix [gZ (kx a b p false),iP (nm a b p false)]):=
 tr true call209 func209 (chain [.c (W8 _ _ _ _ af af af ae ae:gW 269 [(gZ a),(gZ b),(iP p),(bP false)] _)]<|.nil) ah 
theorem W7(a b:Dy)(p:Nat)(ha:a.ic)(hb:b.ic)(b0:b.m≠0)(im:8<=p)(ia:p<=512):gW 210 [(gZ a),(gZ b),(iP p)] (.ix [gZ (kx a b p true),iP (nm a b p true)]):=
 tr true call210 func210 (chain [.c (W8 _ _ _ _ af af af ae ae:gW 269 [(gZ a),(gZ b),(iP p),(bP true)] _)]<|.nil) ah 
def UM(l:List Iv)(i:Nat):PS:=⟨19,true,[(7,.e (iP i)),(6,.e (iP l.length)),(5,.e (ij l))],[]⟩
def UL(l:List Iv)(N:Nat)(i:Nat):PS:=⟨19,true,[(7,.e (iP i)),(6,.e (iP l.length)),(5,.e (ij l))],[]⟩
theorem mH(a:Iv):E.le (.sl true 1 7 λi j=>(ja a).getD (i*7+j) (.v (.bool false))) (ij [a]):=.sl λi j hi hj=>by
 obtain rfl:i=0:= ae ;rcases j with _|_|_|_|_|_|_|j
 all_goals first|exact⟨.refl _,rfl⟩|omega
theorem y9(a b:Iv):E.le (.sl true 2 7 λi j=>(ja a++ja b).getD (i*7+j) (.v (.bool false))) (ij [a,b]):=.sl λi j hi hj=>by
 obtain rfl|rfl:i=0\/i=1:= ae 
 all_goals
  rcases j with _|_|_|_|_|_|_|j
  all_goals first|exact⟨.refl _,rfl⟩|omega
theorem ph{x:Iv}(h:x.ic)(ha:x.all=false):x.lo.ic/\x.hi.ic/\jo x.lo x.hi<=0:=by
 rcases h with⟨h1,_⟩|⟨_,h⟩
 .rw [ha]at h1;cases h1
 .exact h
theorem Ng{x:Iv}(h:x.ic)(ha:x.all=true):x.lo=jA/\x.hi=jA:=by
 rcases h with⟨_,h⟩|⟨h1,_⟩
 .exact h
 .rw [ha]at h1;cases h1
theorem nF : gW 148 [] (ib ig):=
 tr true call148 func148 (chain [.o 1 (.e GG:PV.le (.e (.agg [(bP false),(.v (.slice none 0 0)),(iP 0),(bP false),(.v (.slice none 0 0)),(iP 0),(bP true)])) (.e (ib ig)))]<|.nil) ah 
theorem BS(lo hi:Dy)(e f:Int):gW 151 [(gZ lo),(iP e),(gZ hi),(iP f)] (ib (kI lo e hi f)):=by
 by_cases he:e=0
 .by_cases hf:f=0
  .exact tr true call151 func151 (chain [tB 10 (by rw[he];rfl:(e != 0)=false),tB 13 (by rw[hf];rfl:(f != 0)=false)]<|rQ (ib (Iv.mk lo hi false)) (ib (kI lo e hi f)) (by rw[show kI lo e hi f=⟨lo,hi,false⟩by unfold kI;rw[aR (by simp[he,hf])]];try rfl)) ah 
  .exact tr true call151 func151 (chain [tB 10 (by rw[he];rfl:(e != 0)=false),tB 13 (by simpa using hf:(f != 0)=true),.c (nF:gW 148 [] _)]<|rQ (ib ig) (ib (kI lo e hi f)) (by rw[show kI lo e hi f=ig by unfold kI;rw[aS (.inr hf)]])) ah 
 .exact tr true call151 func151 (chain [tB 10 (by simpa using he:(e != 0)=true),.c (nF:gW 148 [] _)]<|rQ (ib ig) (ib (kI lo e hi f)) (by rw[show kI lo e hi f=ig by unfold kI;rw[aS (.inl he)]])) ah 
theorem UQ : gW 198 [(gZ jA)] (bP true):=
 tr true call198 func198 (chain [tB 4 (rfl:jA.neg=false),tB 10 (r7 (qZ.2 rfl):(((gV jA.m).length:Int)==0)=true),tB 15 (rfl:(jA.e==0)=true)]<|.nil) ah 
theorem qY(x:Iv)(hx:x.ic):gW 121 [(ib x)] (bP true):=by
 by_cases kC:x.all=true
 .obtain ⟨h1,h2⟩:=Ng hx kC
  exact tr true call121 func121 (chain [tB 5 (kC:x.all=true),.c (by rw[h1];exact UQ:gW 198 [(gZ x.lo)] (bP true)),.c (by rw[h2];exact UQ:gW 198 [(gZ x.hi)] (bP true))]<|.nil) ah 
 .replace kC:x.all=false:=by simpa using kC
  obtain⟨h1,h2,h3⟩:=ph hx kC;exact tr true call121 func121 (chain [tB 5 (kC:x.all=false),.c (qu _ af:gW 92 [(gZ x.lo)] _),.c (qu _ af:gW 92 [(gZ x.hi)] _),.c (oe _ _ af af:gW 122 [(gZ x.lo),(gZ x.hi)] _),tB 30 (aT h3)]<|.nil) ah 
theorem UN(l:List Iv)(hl:l.length<=1000)(hv:∀ i,i<l.length->(l.getD i ig).ic)(ha:∀ i,i<l.length->(l.getD i ig).all=false):gW 93 [(ij l)] (bP true):=
 tr true call93 func93 (chain [.s (Sp.jy (UM l) 0 l.length ae (λi hi pN=>by
    have Ub:=hv i ae;have Md:=ha i ae;exact iC (chain [tT 8 ((i:Int)<l.length) ae,iX ((i:Int)) (l.length) ae,tB 12 (Md:(l.getD i ig).all=false),.c (qY _ af:gW 121 [(ib (l.getD i ig))] _),
     iu ((i:Int)+1) ae]<|.nil) ah)
  (λhi=>by
    exact iC (chain [tF 8 ((l.length:Int)<l.length) ae]<|.nil) ah) ak:jv 2 Tryz.f93 (UM l 0) (.exit 0) ⟨19,true,[],[]⟩) .nil]<|.nil) ah 
theorem Nd(l:List Iv)(hl:l.length<=1000)(hv:∀ i,i<l.length->(l.getD i ig).ic)(N:Nat)(hN:N<l.length)(ha:∀ i,i<N->(l.getD i ig).all=false)(sk:(l.getD N ig).all=true):gW 93 [(ij l)] (bP false):=
 tr true call93 func93 (chain [.s (Sp.jy (UL l N) 0 N ae (λi hi pN=>by
    have Ub:=hv i ae;have Md:=ha i ae;exact iC (chain [tT 8 ((i:Int)<l.length) ae,iX ((i:Int)) (l.length) ae,tB 12 (Md:(l.getD i ig).all=false),.c (qY _ af:gW 121 [(ib (l.getD i ig))] _),
     iu ((i:Int)+1) ae]<|.nil) ah)
  (λhi=>by
    exact iC (chain [tT 8 ((N:Int)<l.length) ae,iX ((N:Int)) (l.length) ae,tB 12 (sk:(l.getD N ig).all=true)]<|.nil) ah) ak:jv 2 Tryz.f93 (UL l N 0) .ret ⟨19,true,[(2,.e (bP false))],[]⟩) .nil]<|.nil) ah 
theorem pS(x:Iv)(hx:x.ic):gW 93 [ij [x]] (bP (!x.all)):=by
 have hv:∀ i,i<[x].length->([x].getD i ig).ic:=λi hi=>(match i,hi with
  | 0,_=>hx
  |n+1,hi=>absurd hi aj)
 cases kC:x.all with
 |true=>exact Nd [x] aj hv 0 aj (λi hi=>absurd hi (bk i)) kC
 |false=>exact UN [x] aj hv (λi hi=>(match i,hi with
  | 0,_=>kC
  |n+1,hi=>absurd hi aj))
theorem y8(x y:Iv)(hx:x.ic)(hy:y.ic):gW 93 [ij [x,y]] (bP (!(x.all||y.all))):=by
 have hv:∀ i,i<[x,y].length->([x,y].getD i ig).ic:=λi hi=>(match i,hi with
  | 0,_=>hx
  | 1,_=>hy
  |n+2,hi=>absurd hi aj)
 cases kC:x.all with
 |true=>exact Nd [x,y] aj hv 0 aj (λi hi=>absurd hi (bk i)) kC
 |false=>cases AD:y.all with
  |true=>exact Nd [x,y] aj hv 1 aj (λi hi=>(match i,hi with
   | 0,_=>kC
   |n+1,hi=>absurd hi ae)) AD
  |false=>exact UN [x,y] aj hv (λi hi=>(match i,hi with
   | 0,_=>kC
   | 1,_=>AD
   |n+2,hi=>absurd hi aj))
theorem Ds(x y:Iv)(p:Nat)(hx:x.ic)(hy:y.ic)(im:8<=p)(ia:p<=512):gW 78 [(ib x),(ib y),(iP p)] (ib (jl x y p)):=by
 by_cases hk:(x.all||y.all)=true
 .exact tr true call78 func78 (chain [.o 13 (.e (y9 _ _):PV.le (.e (.sl true 2 7 λi_ j_=>(ja x++ja y).getD (i_*7+j_) (.v (.bool false)))) (.e (ij [x,y]))),.c (y8 _ _ af af:gW 93 [(ij [x,y])] _),tB 14 (by rw[hk];rfl:(!(x.all||y.all))=false),.c (nF:gW 148 [] _)]<|rQ (ib ig) (ib (jl x y p)) (by rw[show jl x y p=ig by unfold jl;rw[aS hk]])) ah 
 .replace hk:(x.all||y.all)=false:=by simpa using hk
  have kC:x.all=false:=by cases h:x.all;rfl;rw[h]at hk;simp at hk
  have AD:y.all=false:=by cases h:y.all;rfl;rw[h]at hk;simp at hk
  obtain⟨v1,v2,v3⟩:=ph hx kC;obtain⟨v4,v5,v6⟩:=ph hy AD;exact tr true call78 func78 (chain [.o 13 (.e (y9 _ _):PV.le (.e (.sl true 2 7 λi_ j_=>(ja x++ja y).getD (i_*7+j_) (.v (.bool false)))) (.e (ij [x,y]))),.c (y8 _ _ af af:gW 93 [(ij [x,y])] _),tB 14 (by rw[hk];rfl:(!(x.all||y.all))=true),.c (vH _:gW 147 [(iP p)] _),tB 18 (pn.2 ⟨ae,ae⟩:(lE (p:Int))=true),.c (ajy x.lo y.lo p af af ae ae),.c (W4 x.hi y.hi p af af ae ae),.c (BS _ _ _ _:gW 151 [(gZ (jh (iJ x.lo y.lo) p false)),(iP (jx (iJ x.lo y.lo) p false)),(gZ (jh (iJ x.hi y.hi) p true)),(iP (jx (iJ x.hi y.hi) p true))] _)]<|rQ (ib (kI (jh (iJ x.lo y.lo) p false) (jx (iJ x.lo y.lo) p false) (jh (iJ x.hi y.hi) p true) (jx (iJ x.hi y.hi) p true))) (ib (jl x y p)) (by rw[show jl x y p=_ by unfold jl;rw[aR (by rw[hk];decide)]])) ah 
theorem UO(x:Iv)(hx:x.ic):gW 268 [(ib x)] (ib (pV x)):=by
 by_cases kC:x.all=true
 .exact tr true call268 func268 (chain [.o 4 (.e (mH _):PV.le (.e (.sl true 1 7 λi_ j_=>(ja x).getD (i_*7+j_) (.v (.bool false)))) (.e (ij [x]))),.c (pS _ af:gW 93 [(ij [x])] _),tB 5 (by rw[kC];rfl:(!x.all)=false),.c (nF:gW 148 [] _)]<|rQ (ib ig) (ib (pV x)) (by rw[show pV x=ig by unfold pV;rw[aS kC]])) ah 
 .replace kC:x.all=false:=by simpa using kC
  obtain⟨v1,v2,v3⟩:=ph hx kC;exact tr true call268 func268 (chain [.o 4 (.e (mH _):PV.le (.e (.sl true 1 7 λi_ j_=>(ja x).getD (i_*7+j_) (.v (.bool false)))) (.e (ij [x]))),.c (pS _ af:gW 93 [(ij [x])] _),tB 5 (by rw[kC];rfl:(!x.all)=true),.c (yJ _ af:gW 166 [(gZ x.hi)] _),.c (yJ _ af:gW 166 [(gZ x.lo)] _)]<|rQ (ib (Iv.mk (iF x.hi) (iF x.lo) false)) (ib (pV x)) (by rw[show pV x=⟨iF x.hi,iF x.lo,false⟩by unfold pV;rw[aR (by rw[kC];decide)]];try rfl)) ah 
theorem agp(x y:Iv)(p:Nat)(hx:x.ic)(hy:y.ic)(im:8<=p)(ia:p<=512):gW 203 [(ib x),(ib y),(iP p)] (ib (Cm x y p)):=by
 have hn:=B2 hy;exact tr true call203 func203 (chain [.c (UO _ af:gW 268 [(ib y)] _),.c (Ds _ _ _ af af ae ae:gW 78 [(ib x),(ib (pV y)),(iP p)] _)]<|.nil) ah 
theorem Du(d:Dy)(hd:d.ic):gW 202 [(gZ d)] (ib (mo d)):=
 tr true call202 func202 (chain [.c (qu _ af:gW 92 [(gZ d)] _)]<|.nil) ah 
theorem Ey(d:Dy)(hd:d.ic):gW 243 [(gZ d)] (gZ (lh d)):=by
 have hl:=hd.gV;by_cases h0:d.m=0
 .have e1:lh d=jA:=by
   rcases hd.canon with q|q
   .unfold lh jA;rw[q.1,q.2.2]
   .omega
  exact tr true call243 func243 (chain [.c (qu _ af:gW 92 [(gZ d)] _),tB 10 (r7 (qZ.2 h0):(((gV d.m).length:Int)==0)=true),.o 12 (.e wa:PV.le (.e (.agg [(bP false),(.v (.slice none 0 0)),(iP 0)])) (.e (gZ jA)))]<|rQ (gZ jA) (gZ (lh d)) (by rw[e1])) ah 
 .exact tr true call243 func243 (chain [.c (qu _ af:gW 92 [(gZ d)] _),tB 10 (nv (pU h0):(((gV d.m).length:Int)==0)=false),.c (Q4 _ (kE _) ae:gW 244 [(gY (gV d.m))] _)]<|.nil) ah 
theorem Jc(a b:Dy)(ha:a.ic)(hb:b.ic):gW 304 [(gZ a),(gZ b)] (gZ (iU a b)):=by
 have hc:=xv a b;by_cases h:(jo a b<=0)
 .exact tr true call304 func304 (chain [.c (oe _ _ af af:gW 122 [(gZ a),(gZ b)] _),tB 8 (aT h)]<|rQ (gZ a) (gZ (iU a b)) (by unfold iU;rw[aR ae])) ah 
 .exact tr true call304 func304 (chain [.c (oe _ _ af af:gW 122 [(gZ a),(gZ b)] _),tB 8 (aU h)]<|rQ (gZ b) (gZ (iU a b)) (by unfold iU;rw[aS ae])) ah 
theorem Jd(a b:Dy)(ha:a.ic)(hb:b.ic):gW 242 [(gZ a),(gZ b)] (gZ (iR a b)):=by
 have hc:=xv a b;by_cases h:(0<=jo a b)
 .exact tr true call242 func242 (chain [.c (oe _ _ af af:gW 122 [(gZ a),(gZ b)] _),tB 8 (aT h)]<|rQ (gZ a) (gZ (iR a b)) (by unfold iR;rw[aR ae])) ah 
 .exact tr true call242 func242 (chain [.c (oe _ _ af af:gW 122 [(gZ a),(gZ b)] _),tB 8 (aU h)]<|rQ (gZ b) (gZ (iR a b)) (by unfold iR;rw[aS ae])) ah 
theorem Jf(x:Iv)(hx:x.ic):gW 47 [(ib x)] (iP (lK x)):=by
 by_cases kC:x.all=true
 .exact tr true call47 func47 (chain [.o 5 (.e (mH _):PV.le (.e (.sl true 1 7 λi_ j_=>(ja x).getD (i_*7+j_) (.v (.bool false)))) (.e (ij [x]))),.c (pS _ af:gW 93 [(ij [x])] _),tB 6 (by rw[kC];rfl:(!x.all)=false)]<|rQ (iP 0) (iP (lK x)) (by rw[show lK x=0 by unfold lK;rw[aS kC]])) ah 
 .replace kC:x.all=false:=by simpa using kC
  obtain⟨v1,v2,v3⟩:=ph hx kC;by_cases h1:0<x.lo.iK
  .exact tr true call47 func47 (chain [.o 5 (.e (mH _):PV.le (.e (.sl true 1 7 λi_ j_=>(ja x).getD (i_*7+j_) (.v (.bool false)))) (.e (ij [x]))),.c (pS _ af:gW 93 [(ij [x])] _),tB 6 (by rw[kC];rfl:(!x.all)=true),.c (og _ af:gW 46 [(gZ x.lo)] _),tB 12 (aT h1)]<|rQ (iP 1) (iP (lK x)) (by rw[show lK x=1 by unfold lK;rw[aR (by rw[kC];decide)];simp[h1]])) ah 
  .by_cases h2:x.hi.iK<0
   .exact tr true call47 func47 (chain [.o 5 (.e (mH _):PV.le (.e (.sl true 1 7 λi_ j_=>(ja x).getD (i_*7+j_) (.v (.bool false)))) (.e (ij [x]))),.c (pS _ af:gW 93 [(ij [x])] _),tB 6 (by rw[kC];rfl:(!x.all)=true),.c (og _ af:gW 46 [(gZ x.lo)] _),tB 12 (aU h1),.c (og _ af:gW 46 [(gZ x.hi)] _),tB 17 (aT h2)]<|rQ (iP (-1)) (iP (lK x)) (by rw[show lK x = -1 by unfold lK;rw[aR (by rw[kC];decide)];simp[h1,h2]])) ah 
   .exact tr true call47 func47 (chain [.o 5 (.e (mH _):PV.le (.e (.sl true 1 7 λi_ j_=>(ja x).getD (i_*7+j_) (.v (.bool false)))) (.e (ij [x]))),.c (pS _ af:gW 93 [(ij [x])] _),tB 6 (by rw[kC];rfl:(!x.all)=true),.c (og _ af:gW 46 [(gZ x.lo)] _),tB 12 (aU h1),.c (og _ af:gW 46 [(gZ x.hi)] _),tB 17 (aU h2)]<|rQ (iP 0) (iP (lK x)) (by rw[show lK x=0 by unfold lK;rw[aR (by rw[kC];decide)];simp[h1,h2]])) ah 
theorem Nf(x:Iv)(hx:x.ic)(kC:x.all=false):gW 165 [(ib x)] (.ix [gZ (mD x),bP true]):=by
 obtain⟨v1,v2,v3⟩:=ph hx kC;have w1:=rM v1;have w2:=rM v2;exact tr true call165 func165 (chain [.o 5 (.e (mH _):PV.le (.e (.sl true 1 7 λi_ j_=>(ja x).getD (i_*7+j_) (.v (.bool false)))) (.e (ij [x]))),.c (pS _ af:gW 93 [(ij [x])] _),tB 6 (by rw[kC];rfl:(!x.all)=true),.c (Ey _ af:gW 243 [(gZ x.lo)] _),.c (Ey _ af:gW 243 [(gZ x.hi)] _),.c (Jd _ _ af af:gW 242 [(gZ (lh x.lo)),(gZ (lh x.hi))] _)]<|.nil) ah 
theorem agl(x:Iv)(hx:x.ic)(kC:x.all=false):gW 267 [(ib x)] (.ix [gZ (nu x),bP true]):=by
 obtain⟨v1,v2,v3⟩:=ph hx kC;have w1:=rM v1;have w2:=rM v2;by_cases hs:lK x=0
 .exact tr true call267 func267 (chain [.o 5 (.e (mH _):PV.le (.e (.sl true 1 7 λi_ j_=>(ja x).getD (i_*7+j_) (.v (.bool false)))) (.e (ij [x]))),.c (pS _ af:gW 93 [(ij [x])] _),tB 6 (by rw[kC];rfl:(!x.all)=true),.c (Jf _ af:gW 47 [(ib x)] _),tB 11 (by rw[hs];rfl:((lK x)==0)=true),.o 12 (.e wa:PV.le (.e (.agg [(bP false),(.v (.slice none 0 0)),(iP 0)])) (.e (gZ jA)))]<|rQ (.ix [(gZ jA),(bP true)]) (.ix [gZ (nu x),bP true]) (by rw[show nu x=jA by unfold nu;rw[aS hs]])) ah 
 .exact tr true call267 func267 (chain [.o 5 (.e (mH _):PV.le (.e (.sl true 1 7 λi_ j_=>(ja x).getD (i_*7+j_) (.v (.bool false)))) (.e (ij [x]))),.c (pS _ af:gW 93 [(ij [x])] _),tB 6 (by rw[kC];rfl:(!x.all)=true),.c (Jf _ af:gW 47 [(ib x)] _),tB 11 (by simpa using hs:((lK x)==0)=false),.c (Ey _ af:gW 243 [(gZ x.lo)] _),.c (Ey _ af:gW 243 [(gZ x.hi)] _),.c (Jc _ _ af af:gW 304 [(gZ (lh x.lo)),(gZ (lh x.hi))] _)]<|rQ (.ix [(gZ (iU (lh x.lo) (lh x.hi))),(bP true)]) (.ix [gZ (nu x),bP true]) (by rw[show nu x=iU (lh x.lo) (lh x.hi)by unfold nu;rw[aR hs]])) ah 
theorem Nc(x:Iv)(hx:x.ic):gW 201 [(ib x)] (ib (iZ x)):=by
 by_cases kC:x.all=true
 .exact tr true call201 func201 (chain [.o 8 (.e (mH _):PV.le (.e (.sl true 1 7 λi_ j_=>(ja x).getD (i_*7+j_) (.v (.bool false)))) (.e (ij [x]))),.c (pS _ af:gW 93 [(ij [x])] _),tB 9 (by rw[kC];rfl:(!x.all)=false),.c (nF:gW 148 [] _)]<|rQ (ib ig) (ib (iZ x)) (by rw[show iZ x=ig by unfold iZ;rw[aS kC]])) ah 
 .replace kC:x.all=false:=by simpa using kC
  obtain⟨v1,v2,v3⟩:=ph hx kC;exact tr true call201 func201 (chain [.o 8 (.e (mH _):PV.le (.e (.sl true 1 7 λi_ j_=>(ja x).getD (i_*7+j_) (.v (.bool false)))) (.e (ij [x]))),.c (pS _ af:gW 93 [(ij [x])] _),tB 9 (by rw[kC];rfl:(!x.all)=true),.c (agl _ af kC:gW 267 [(ib x)] _),.c (Nf _ af kC:gW 165 [(ib x)] _)]<|rQ (ib (Iv.mk (nu x) (mD x) false)) (ib (iZ x)) (by rw[show iZ x=⟨nu x,mD x,false⟩by unfold iZ;rw[aR (by rw[kC];decide)]];try rfl)) ah 
def agh(x y:Iv)(p:Nat)(gd gu:FuncId)(DD:Dy->Dy->Bool->Dy)(EE:Dy->Dy->Bool->Int):PS:=⟨96,true,[(41,.e (iP 0)),(40,.e (.agg (ja (Iv.mk x.lo y.lo x.lo.neg)++[(gY (gV x.lo.m)),(iP x.lo.e)]++ja (Iv.mk y.hi x.hi y.lo.neg)++[(gY (gV y.lo.m)),(iP y.lo.e)]++jr x.hi++jr y.hi))),(12,.box 12 0),(10,.box 10 0),(2,.e (iP p)),(3,.e (.fn gd [])),(4,.e (.fn gu []))],[(12,.cells 46 (ja (Iv.mk (DD x.lo y.lo false) (DD x.lo y.lo true) false))),(10,.cells 46 [(bP false),(.v (.slice none 0 0)),(iP 0),(bP false),(.v (.slice none 0 0)),(iP 0),(bP false)])]⟩
def agi(x y:Iv)(p:Nat)(gd gu:FuncId)(DD:Dy->Dy->Bool->Dy)(EE:Dy->Dy->Bool->Int):PS:=⟨96,true,[(41,.e (iP (0+1))),(40,.e (.agg (ja (Iv.mk x.lo y.lo x.lo.neg)++[(gY (gV x.lo.m)),(iP x.lo.e)]++ja (Iv.mk y.hi x.hi y.lo.neg)++[(gY (gV y.lo.m)),(iP y.lo.e)]++jr x.hi++jr y.hi))),(12,.box 12 0),(10,.box 10 0),(2,.e (iP p)),(3,.e (.fn gd [])),(4,.e (.fn gu []))],[(12,.cells 46 (ja (Iv.mk (iU (DD x.lo y.lo false) (DD x.lo y.hi false)) (iR (DD x.lo y.lo true) (DD x.lo y.hi true)) false))),(10,.cells 46 [(bP false),(.v (.slice none 0 0)),(iP 0),(bP false),(.v (.slice none 0 0)),(iP 0),(bP false)])]⟩
def agj(x y:Iv)(p:Nat)(gd gu:FuncId)(DD:Dy->Dy->Bool->Dy)(EE:Dy->Dy->Bool->Int):PS:=⟨96,true,[(41,.e (iP ((0+1)+1))),(40,.e (.agg (ja (Iv.mk x.lo y.lo x.lo.neg)++[(gY (gV x.lo.m)),(iP x.lo.e)]++ja (Iv.mk y.hi x.hi y.lo.neg)++[(gY (gV y.lo.m)),(iP y.lo.e)]++jr x.hi++jr y.hi))),(12,.box 12 0),(10,.box 10 0),(2,.e (iP p)),(3,.e (.fn gd [])),(4,.e (.fn gu []))],[(12,.cells 46 (ja (Iv.mk (iU (iU (DD x.lo y.lo false) (DD x.lo y.hi false)) (DD x.hi y.lo false)) (iR (iR (DD x.lo y.lo true) (DD x.lo y.hi true)) (DD x.hi y.lo true)) false))),(10,.cells 46 [(bP false),(.v (.slice none 0 0)),(iP 0),(bP false),(.v (.slice none 0 0)),(iP 0),(bP false)])]⟩
def agk(x y:Iv)(p:Nat)(gd gu:FuncId)(DD:Dy->Dy->Bool->Dy)(EE:Dy->Dy->Bool->Int):PS:=⟨96,true,[(41,.e (iP (((0+1)+1)+1))),(40,.e (.agg (ja (Iv.mk x.lo y.lo x.lo.neg)++[(gY (gV x.lo.m)),(iP x.lo.e)]++ja (Iv.mk y.hi x.hi y.lo.neg)++[(gY (gV y.lo.m)),(iP y.lo.e)]++jr x.hi++jr y.hi))),(12,.box 12 0),(10,.box 10 0),(2,.e (iP p)),(3,.e (.fn gd [])),(4,.e (.fn gu []))],[(12,.cells 46 (ja (Iv.mk (iU (iU (iU (DD x.lo y.lo false) (DD x.lo y.hi false)) (DD x.hi y.lo false)) (DD x.hi y.hi false)) (iR (iR (iR (DD x.lo y.lo true) (DD x.lo y.hi true)) (DD x.hi y.lo true)) (DD x.hi y.hi true)) false))),(10,.cells 46 [(bP false),(.v (.slice none 0 0)),(iP 0),(bP false),(.v (.slice none 0 0)),(iP 0),(bP false)])]⟩
theorem UK(x y:Iv)(p:Nat)(gd gu:FuncId)(DD:Dy->Dy->Bool->Dy)(EE:Dy->Dy->Bool->Int)(hd:∀ a b,(a=x.lo\/a=x.hi)->(b=y.lo\/b=y.hi)->gW gd [gZ a,gZ b,iP (p:Int)] (.ix [gZ (DD a b false),iP (EE a b false)]))
  (hu:∀ a b,(a=x.lo\/a=x.hi)->(b=y.lo\/b=y.hi)->gW gu [gZ a,gZ b,iP (p:Int)] (.ix [gZ (DD a b true),iP (EE a b true)])) (hv:∀ a b up,(DD a b up).ic):gW 188 [(ib x),(ib y),(iP p),(.fn gd []),(.fn gu [])] (ib (mq DD EE x y)):=by
 exact tr true call188 func188 (chain [.u 5,tB 42 (ag:(decide ((0:Int)<4))=true)]<|.w ((EE x.lo y.lo false)=0)
  (λk1=>.w ((EE x.lo y.lo true)=0)
   (λk2=>chain [.j 3 (agh x y p gd gu DD EE)
   (chain [iX (0) (4) ae,iX (0) (2) ae,iX (1) (2) ae,.c (hd _ _ (.inl rfl) (.inl rfl):gW gd ((gZ x.lo)::(gZ y.lo)::(iP p)::[]) _),iX (0) (2) ae,iX (1) (2) ae,.c (hu _ _ (.inl rfl) (.inl rfl):gW gu ((gZ x.lo)::(gZ y.lo)::(iP p)::[]) _),tB 66 (aP k1),tB 69 (aP k2),tB 73 (ag:((0:Int)==0)=true),tB 84 (ag:((0:Int)==0)=true)]<|.nil),
    iu (0+1) ae,tB 42 (ag:(decide (((0+1):Int)<4))=true)]<|.w ((EE x.lo y.hi false)=0)
    (λk3=>.w ((EE x.lo y.hi true)=0)
     (λk4=>chain [.j 3 (agi x y p gd gu DD EE)
   (chain [iX ((0+1)) (4) ae,iX (0) (2) ae,iX (1) (2) ae,.c (hd _ _ (.inl rfl) (.inr rfl):gW gd ((gZ x.lo)::(gZ y.hi)::(iP p)::[]) _),iX (0) (2) ae,iX (1) (2) ae,.c (hu _ _ (.inl rfl) (.inr rfl):gW gu ((gZ x.lo)::(gZ y.hi)::(iP p)::[]) _),tB 66 (aP k3),tB 69 (aP k4),tB 73 (ag:(((0+1):Int)==0)=false),.c (oe _ _ (hv _ _ _) (hv _ _ _):gW 122 [(gZ (DD x.lo y.hi false)),(gZ (DD x.lo y.lo false))] _)]<|.w ((jo (DD x.lo y.hi false) (DD x.lo y.lo false))<0)
    (λm1=>chain [tB 79 (aT m1),tB 84 (ag:(((0+1):Int)==0)=false),.c (oe _ _ (hv _ _ _) (hv _ _ _):gW 122 [(gZ (DD x.lo y.hi true)),(gZ (DD x.lo y.lo true))] _)]<|.w (0<(jo (DD x.lo y.hi true) (DD x.lo y.lo true)))
     (λm2=>chain [tB 90 (aT m2)]<|.e (chain [.b 12 (.iS (by rw[show iU (DD x.lo y.lo false) (DD x.lo y.hi false)=(DD x.lo y.hi false)from aS m1,show iR (DD x.lo y.lo true) (DD x.lo y.hi true)=(DD x.lo y.hi true)from aS m2]):Bx.le (.cells 46 (ja (Iv.mk (DD x.lo y.hi false) (DD x.lo y.hi true) false))) (.cells 46 (ja (Iv.mk (iU (DD x.lo y.lo false) (DD x.lo y.hi false)) (iR (DD x.lo y.lo true) (DD x.lo y.hi true)) false))))]<|.nil))
     (λm2=>chain [tB 90 (aU m2)]<|.e (chain [.b 12 (.iS (by rw[show iU (DD x.lo y.lo false) (DD x.lo y.hi false)=(DD x.lo y.hi false)from aS m1,show iR (DD x.lo y.lo true) (DD x.lo y.hi true)=(DD x.lo y.lo true)from aR m2]):Bx.le (.cells 46 (ja (Iv.mk (DD x.lo y.hi false) (DD x.lo y.lo true) false))) (.cells 46 (ja (Iv.mk (iU (DD x.lo y.lo false) (DD x.lo y.hi false)) (iR (DD x.lo y.lo true) (DD x.lo y.hi true)) false))))]<|.nil)))
    (λm1=>chain [tB 79 (aU m1),tB 84 (ag:(((0+1):Int)==0)=false),.c (oe _ _ (hv _ _ _) (hv _ _ _):gW 122 [(gZ (DD x.lo y.hi true)),(gZ (DD x.lo y.lo true))] _)]<|.w (0<(jo (DD x.lo y.hi true) (DD x.lo y.lo true)))
     (λm2=>chain [tB 90 (aT m2)]<|.e (chain [.b 12 (.iS (by rw[show iU (DD x.lo y.lo false) (DD x.lo y.hi false)=(DD x.lo y.lo false)from aR m1,show iR (DD x.lo y.lo true) (DD x.lo y.hi true)=(DD x.lo y.hi true)from aS m2]):Bx.le (.cells 46 (ja (Iv.mk (DD x.lo y.lo false) (DD x.lo y.hi true) false))) (.cells 46 (ja (Iv.mk (iU (DD x.lo y.lo false) (DD x.lo y.hi false)) (iR (DD x.lo y.lo true) (DD x.lo y.hi true)) false))))]<|.nil))
     (λm2=>chain [tB 90 (aU m2)]<|.e (chain [.b 12 (.iS (by rw[show iU (DD x.lo y.lo false) (DD x.lo y.hi false)=(DD x.lo y.lo false)from aR m1,show iR (DD x.lo y.lo true) (DD x.lo y.hi true)=(DD x.lo y.lo true)from aR m2]):Bx.le (.cells 46 (ja (Iv.mk (DD x.lo y.lo false) (DD x.lo y.lo true) false))) (.cells 46 (ja (Iv.mk (iU (DD x.lo y.lo false) (DD x.lo y.hi false)) (iR (DD x.lo y.lo true) (DD x.lo y.hi true)) false))))]<|.nil)))),
      iu ((0+1)+1) ae,tB 42 (ag:(decide ((((0+1)+1):Int)<4))=true)]<|.w ((EE x.hi y.lo false)=0)
      (λk5=>.w ((EE x.hi y.lo true)=0)
       (λk6=>chain [.j 3 (agj x y p gd gu DD EE)
   (chain [iX (((0+1)+1)) (4) ae,iX (0) (2) ae,iX (1) (2) ae,.c (hd _ _ (.inr rfl) (.inl rfl):gW gd ((gZ x.hi)::(gZ y.lo)::(iP p)::[]) _),iX (0) (2) ae,iX (1) (2) ae,.c (hu _ _ (.inr rfl) (.inl rfl):gW gu ((gZ x.hi)::(gZ y.lo)::(iP p)::[]) _),tB 66 (aP k5),tB 69 (aP k6),tB 73 (ag:((((0+1)+1):Int)==0)=false),.c (oe _ _ (hv _ _ _) (qi (hv _ _ _) (hv _ _ _)):gW 122 [(gZ (DD x.hi y.lo false)),(gZ (iU (DD x.lo y.lo false) (DD x.lo y.hi false)))] _)]<|.w ((jo (DD x.hi y.lo false) (iU (DD x.lo y.lo false) (DD x.lo y.hi false)))<0)
    (λm1=>chain [tB 79 (aT m1),tB 84 (ag:((((0+1)+1):Int)==0)=false),.c (oe _ _ (hv _ _ _) (pj (hv _ _ _) (hv _ _ _)):gW 122 [(gZ (DD x.hi y.lo true)),(gZ (iR (DD x.lo y.lo true) (DD x.lo y.hi true)))] _)]<|.w (0<(jo (DD x.hi y.lo true) (iR (DD x.lo y.lo true) (DD x.lo y.hi true))))
     (λm2=>chain [tB 90 (aT m2)]<|.e (chain [.b 12 (.iS (by rw[show iU (iU (DD x.lo y.lo false) (DD x.lo y.hi false)) (DD x.hi y.lo false)=(DD x.hi y.lo false)from aS m1,show iR (iR (DD x.lo y.lo true) (DD x.lo y.hi true)) (DD x.hi y.lo true)=(DD x.hi y.lo true)from aS m2]):Bx.le (.cells 46 (ja (Iv.mk (DD x.hi y.lo false) (DD x.hi y.lo true) false))) (.cells 46 (ja (Iv.mk (iU (iU (DD x.lo y.lo false) (DD x.lo y.hi false)) (DD x.hi y.lo false)) (iR (iR (DD x.lo y.lo true) (DD x.lo y.hi true)) (DD x.hi y.lo true)) false))))]<|.nil))
     (λm2=>chain [tB 90 (aU m2)]<|.e (chain [.b 12 (.iS (by rw[show iU (iU (DD x.lo y.lo false) (DD x.lo y.hi false)) (DD x.hi y.lo false)=(DD x.hi y.lo false)from aS m1,show iR (iR (DD x.lo y.lo true) (DD x.lo y.hi true)) (DD x.hi y.lo true)=(iR (DD x.lo y.lo true) (DD x.lo y.hi true))from aR m2]):Bx.le (.cells 46 (ja (Iv.mk (DD x.hi y.lo false) (iR (DD x.lo y.lo true) (DD x.lo y.hi true)) false))) (.cells 46 (ja (Iv.mk (iU (iU (DD x.lo y.lo false) (DD x.lo y.hi false)) (DD x.hi y.lo false)) (iR (iR (DD x.lo y.lo true) (DD x.lo y.hi true)) (DD x.hi y.lo true)) false))))]<|.nil)))
    (λm1=>chain [tB 79 (aU m1),tB 84 (ag:((((0+1)+1):Int)==0)=false),.c (oe _ _ (hv _ _ _) (pj (hv _ _ _) (hv _ _ _)):gW 122 [(gZ (DD x.hi y.lo true)),(gZ (iR (DD x.lo y.lo true) (DD x.lo y.hi true)))] _)]<|.w (0<(jo (DD x.hi y.lo true) (iR (DD x.lo y.lo true) (DD x.lo y.hi true))))
     (λm2=>chain [tB 90 (aT m2)]<|.e (chain [.b 12 (.iS (by rw[show iU (iU (DD x.lo y.lo false) (DD x.lo y.hi false)) (DD x.hi y.lo false)=(iU (DD x.lo y.lo false) (DD x.lo y.hi false))from aR m1,show iR (iR (DD x.lo y.lo true) (DD x.lo y.hi true)) (DD x.hi y.lo true)=(DD x.hi y.lo true)from aS m2]):Bx.le (.cells 46 (ja (Iv.mk (iU (DD x.lo y.lo false) (DD x.lo y.hi false)) (DD x.hi y.lo true) false))) (.cells 46 (ja (Iv.mk (iU (iU (DD x.lo y.lo false) (DD x.lo y.hi false)) (DD x.hi y.lo false)) (iR (iR (DD x.lo y.lo true) (DD x.lo y.hi true)) (DD x.hi y.lo true)) false))))]<|.nil))
     (λm2=>chain [tB 90 (aU m2)]<|.e (chain [.b 12 (.iS (by rw[show iU (iU (DD x.lo y.lo false) (DD x.lo y.hi false)) (DD x.hi y.lo false)=(iU (DD x.lo y.lo false) (DD x.lo y.hi false))from aR m1,show iR (iR (DD x.lo y.lo true) (DD x.lo y.hi true)) (DD x.hi y.lo true)=(iR (DD x.lo y.lo true) (DD x.lo y.hi true))from aR m2]):Bx.le (.cells 46 (ja (Iv.mk (iU (DD x.lo y.lo false) (DD x.lo y.hi false)) (iR (DD x.lo y.lo true) (DD x.lo y.hi true)) false))) (.cells 46 (ja (Iv.mk (iU (iU (DD x.lo y.lo false) (DD x.lo y.hi false)) (DD x.hi y.lo false)) (iR (iR (DD x.lo y.lo true) (DD x.lo y.hi true)) (DD x.hi y.lo true)) false))))]<|.nil)))),
        iu (((0+1)+1)+1) ae,tB 42 (ag:(decide (((((0+1)+1)+1):Int)<4))=true)]<|.w ((EE x.hi y.hi false)=0)
        (λk7=>.w ((EE x.hi y.hi true)=0)
         (λk8=>chain [.j 3 (agk x y p gd gu DD EE)
   (chain [iX ((((0+1)+1)+1)) (4) ae,iX (0) (2) ae,iX (1) (2) ae,.c (hd _ _ (.inr rfl) (.inr rfl):gW gd ((gZ x.hi)::(gZ y.hi)::(iP p)::[]) _),iX (0) (2) ae,iX (1) (2) ae,.c (hu _ _ (.inr rfl) (.inr rfl):gW gu ((gZ x.hi)::(gZ y.hi)::(iP p)::[]) _),tB 66 (aP k7),tB 69 (aP k8),tB 73 (ag:(((((0+1)+1)+1):Int)==0)=false),.c (oe _ _ (hv _ _ _) (qi (qi (hv _ _ _) (hv _ _ _)) (hv _ _ _)):gW 122 [(gZ (DD x.hi y.hi false)),(gZ (iU (iU (DD x.lo y.lo false) (DD x.lo y.hi false)) (DD x.hi y.lo false)))] _)]<|.w ((jo (DD x.hi y.hi false) (iU (iU (DD x.lo y.lo false) (DD x.lo y.hi false)) (DD x.hi y.lo false)))<0)
    (λm1=>chain [tB 79 (aT m1),tB 84 (ag:(((((0+1)+1)+1):Int)==0)=false),.c (oe _ _ (hv _ _ _) (pj (pj (hv _ _ _) (hv _ _ _)) (hv _ _ _)):gW 122 [(gZ (DD x.hi y.hi true)),(gZ (iR (iR (DD x.lo y.lo true) (DD x.lo y.hi true)) (DD x.hi y.lo true)))] _)]<|.w (0<(jo (DD x.hi y.hi true) (iR (iR (DD x.lo y.lo true) (DD x.lo y.hi true)) (DD x.hi y.lo true))))
     (λm2=>chain [tB 90 (aT m2)]<|.e (chain [.b 12 (.iS (by rw[show iU (iU (iU (DD x.lo y.lo false) (DD x.lo y.hi false)) (DD x.hi y.lo false)) (DD x.hi y.hi false)=(DD x.hi y.hi false)from aS m1,show iR (iR (iR (DD x.lo y.lo true) (DD x.lo y.hi true)) (DD x.hi y.lo true)) (DD x.hi y.hi true)=(DD x.hi y.hi true)from aS m2]):Bx.le (.cells 46 (ja (Iv.mk (DD x.hi y.hi false) (DD x.hi y.hi true) false))) (.cells 46 (ja (Iv.mk (iU (iU (iU (DD x.lo y.lo false) (DD x.lo y.hi false)) (DD x.hi y.lo false)) (DD x.hi y.hi false)) (iR (iR (iR (DD x.lo y.lo true) (DD x.lo y.hi true)) (DD x.hi y.lo true)) (DD x.hi y.hi true)) false))))]<|.nil))
     (λm2=>chain [tB 90 (aU m2)]<|.e (chain [.b 12 (.iS (by rw[show iU (iU (iU (DD x.lo y.lo false) (DD x.lo y.hi false)) (DD x.hi y.lo false)) (DD x.hi y.hi false)=(DD x.hi y.hi false)from aS m1,show iR (iR (iR (DD x.lo y.lo true) (DD x.lo y.hi true)) (DD x.hi y.lo true)) (DD x.hi y.hi true)=(iR (iR (DD x.lo y.lo true) (DD x.lo y.hi true)) (DD x.hi y.lo true))from aR m2]):Bx.le (.cells 46 (ja (Iv.mk (DD x.hi y.hi false) (iR (iR (DD x.lo y.lo true) (DD x.lo y.hi true)) (DD x.hi y.lo true)) false))) (.cells 46 (ja (Iv.mk (iU (iU (iU (DD x.lo y.lo false) (DD x.lo y.hi false)) (DD x.hi y.lo false)) (DD x.hi y.hi false)) (iR (iR (iR (DD x.lo y.lo true) (DD x.lo y.hi true)) (DD x.hi y.lo true)) (DD x.hi y.hi true)) false))))]<|.nil)))
    (λm1=>chain [tB 79 (aU m1),tB 84 (ag:(((((0+1)+1)+1):Int)==0)=false),.c (oe _ _ (hv _ _ _) (pj (pj (hv _ _ _) (hv _ _ _)) (hv _ _ _)):gW 122 [(gZ (DD x.hi y.hi true)),(gZ (iR (iR (DD x.lo y.lo true) (DD x.lo y.hi true)) (DD x.hi y.lo true)))] _)]<|.w (0<(jo (DD x.hi y.hi true) (iR (iR (DD x.lo y.lo true) (DD x.lo y.hi true)) (DD x.hi y.lo true))))
     (λm2=>chain [tB 90 (aT m2)]<|.e (chain [.b 12 (.iS (by rw[show iU (iU (iU (DD x.lo y.lo false) (DD x.lo y.hi false)) (DD x.hi y.lo false)) (DD x.hi y.hi false)=(iU (iU (DD x.lo y.lo false) (DD x.lo y.hi false)) (DD x.hi y.lo false))from aR m1,show iR (iR (iR (DD x.lo y.lo true) (DD x.lo y.hi true)) (DD x.hi y.lo true)) (DD x.hi y.hi true)=(DD x.hi y.hi true)from aS m2]):Bx.le (.cells 46 (ja (Iv.mk (iU (iU (DD x.lo y.lo false) (DD x.lo y.hi false)) (DD x.hi y.lo false)) (DD x.hi y.hi true) false))) (.cells 46 (ja (Iv.mk (iU (iU (iU (DD x.lo y.lo false) (DD x.lo y.hi false)) (DD x.hi y.lo false)) (DD x.hi y.hi false)) (iR (iR (iR (DD x.lo y.lo true) (DD x.lo y.hi true)) (DD x.hi y.lo true)) (DD x.hi y.hi true)) false))))]<|.nil))
     (λm2=>chain [tB 90 (aU m2)]<|.e (chain [.b 12 (.iS (by rw[show iU (iU (iU (DD x.lo y.lo false) (DD x.lo y.hi false)) (DD x.hi y.lo false)) (DD x.hi y.hi false)=(iU (iU (DD x.lo y.lo false) (DD x.lo y.hi false)) (DD x.hi y.lo false))from aR m1,show iR (iR (iR (DD x.lo y.lo true) (DD x.lo y.hi true)) (DD x.hi y.lo true)) (DD x.hi y.hi true)=(iR (iR (DD x.lo y.lo true) (DD x.lo y.hi true)) (DD x.hi y.lo true))from aR m2]):Bx.le (.cells 46 (ja (Iv.mk (iU (iU (DD x.lo y.lo false) (DD x.lo y.hi false)) (DD x.hi y.lo false)) (iR (iR (DD x.lo y.lo true) (DD x.lo y.hi true)) (DD x.hi y.lo true)) false))) (.cells 46 (ja (Iv.mk (iU (iU (iU (DD x.lo y.lo false) (DD x.lo y.hi false)) (DD x.hi y.lo false)) (DD x.hi y.hi false)) (iR (iR (iR (DD x.lo y.lo true) (DD x.lo y.hi true)) (DD x.hi y.lo true)) (DD x.hi y.hi true)) false))))]<|.nil)))),
          iu ((((0+1)+1)+1)+1) ae,tB 42 (ag:(decide ((((((0+1)+1)+1)+1):Int)<4))=false)]<|rQ (ib (Iv.mk (iU (iU (iU (DD x.lo y.lo false) (DD x.lo y.hi false)) (DD x.hi y.lo false)) (DD x.hi y.hi false)) (iR (iR (iR (DD x.lo y.lo true) (DD x.lo y.hi true)) (DD x.hi y.lo true)) (DD x.hi y.hi true)) false)) (ib (mq DD EE x y)) (by rw[show mq DD EE x y=⟨(iU (iU (iU (DD x.lo y.lo false) (DD x.lo y.hi false)) (DD x.hi y.lo false)) (DD x.hi y.hi false)),(iR (iR (iR (DD x.lo y.lo true) (DD x.lo y.hi true)) (DD x.hi y.lo true)) (DD x.hi y.hi true)),false⟩from aS ⟨⟨k1,k2⟩,⟨k3,k4⟩,⟨k5,k6⟩,⟨k7,k8⟩⟩];try rfl))
         (λk8=>chain [iX ((((0+1)+1)+1)) (4) ae,iX (0) (2) ae,iX (1) (2) ae,.c (hd _ _ (.inr rfl) (.inr rfl):gW gd ((gZ x.hi)::(gZ y.hi)::(iP p)::[]) _),iX (0) (2) ae,iX (1) (2) ae,.c (hu _ _ (.inr rfl) (.inr rfl):gW gu ((gZ x.hi)::(gZ y.hi)::(iP p)::[]) _),tB 66 (aP k7),tB 69 (aQ k8),.c nF]<|rQ (ib ig) (ib (mq DD EE x y)) (by rw[show mq DD EE x y=ig from aR (by rintro⟨⟨q0,r0⟩,⟨q1,r1⟩,⟨q2,r2⟩,⟨q3,r3⟩⟩;exact k8 r3)])))
        (λk7=>chain [iX ((((0+1)+1)+1)) (4) ae,iX (0) (2) ae,iX (1) (2) ae,.c (hd _ _ (.inr rfl) (.inr rfl):gW gd ((gZ x.hi)::(gZ y.hi)::(iP p)::[]) _),iX (0) (2) ae,iX (1) (2) ae,.c (hu _ _ (.inr rfl) (.inr rfl):gW gu ((gZ x.hi)::(gZ y.hi)::(iP p)::[]) _),tB 66 (aQ k7),.c nF]<|rQ (ib ig) (ib (mq DD EE x y)) (by rw[show mq DD EE x y=ig from aR (by rintro⟨⟨q0,r0⟩,⟨q1,r1⟩,⟨q2,r2⟩,⟨q3,r3⟩⟩;exact k7 q3)])))
       (λk6=>chain [iX (((0+1)+1)) (4) ae,iX (0) (2) ae,iX (1) (2) ae,.c (hd _ _ (.inr rfl) (.inl rfl):gW gd ((gZ x.hi)::(gZ y.lo)::(iP p)::[]) _),iX (0) (2) ae,iX (1) (2) ae,.c (hu _ _ (.inr rfl) (.inl rfl):gW gu ((gZ x.hi)::(gZ y.lo)::(iP p)::[]) _),tB 66 (aP k5),tB 69 (aQ k6),.c nF]<|rQ (ib ig) (ib (mq DD EE x y)) (by rw[show mq DD EE x y=ig from aR (by rintro⟨⟨q0,r0⟩,⟨q1,r1⟩,⟨q2,r2⟩,⟨q3,r3⟩⟩;exact k6 r2)])))
      (λk5=>chain [iX (((0+1)+1)) (4) ae,iX (0) (2) ae,iX (1) (2) ae,.c (hd _ _ (.inr rfl) (.inl rfl):gW gd ((gZ x.hi)::(gZ y.lo)::(iP p)::[]) _),iX (0) (2) ae,iX (1) (2) ae,.c (hu _ _ (.inr rfl) (.inl rfl):gW gu ((gZ x.hi)::(gZ y.lo)::(iP p)::[]) _),tB 66 (aQ k5),.c nF]<|rQ (ib ig) (ib (mq DD EE x y)) (by rw[show mq DD EE x y=ig from aR (by rintro⟨⟨q0,r0⟩,⟨q1,r1⟩,⟨q2,r2⟩,⟨q3,r3⟩⟩;exact k5 q2)])))
     (λk4=>chain [iX ((0+1)) (4) ae,iX (0) (2) ae,iX (1) (2) ae,.c (hd _ _ (.inl rfl) (.inr rfl):gW gd ((gZ x.lo)::(gZ y.hi)::(iP p)::[]) _),iX (0) (2) ae,iX (1) (2) ae,.c (hu _ _ (.inl rfl) (.inr rfl):gW gu ((gZ x.lo)::(gZ y.hi)::(iP p)::[]) _),tB 66 (aP k3),tB 69 (aQ k4),.c nF]<|rQ (ib ig) (ib (mq DD EE x y)) (by rw[show mq DD EE x y=ig from aR (by rintro⟨⟨q0,r0⟩,⟨q1,r1⟩,⟨q2,r2⟩,⟨q3,r3⟩⟩;exact k4 r1)])))
    (λk3=>chain [iX ((0+1)) (4) ae,iX (0) (2) ae,iX (1) (2) ae,.c (hd _ _ (.inl rfl) (.inr rfl):gW gd ((gZ x.lo)::(gZ y.hi)::(iP p)::[]) _),iX (0) (2) ae,iX (1) (2) ae,.c (hu _ _ (.inl rfl) (.inr rfl):gW gu ((gZ x.lo)::(gZ y.hi)::(iP p)::[]) _),tB 66 (aQ k3),.c nF]<|rQ (ib ig) (ib (mq DD EE x y)) (by rw[show mq DD EE x y=ig from aR (by rintro⟨⟨q0,r0⟩,⟨q1,r1⟩,⟨q2,r2⟩,⟨q3,r3⟩⟩;exact k3 q1)])))
   (λk2=>chain [iX (0) (4) ae,iX (0) (2) ae,iX (1) (2) ae,.c (hd _ _ (.inl rfl) (.inl rfl):gW gd ((gZ x.lo)::(gZ y.lo)::(iP p)::[]) _),iX (0) (2) ae,iX (1) (2) ae,.c (hu _ _ (.inl rfl) (.inl rfl):gW gu ((gZ x.lo)::(gZ y.lo)::(iP p)::[]) _),tB 66 (aP k1),tB 69 (aQ k2),.c nF]<|rQ (ib ig) (ib (mq DD EE x y)) (by rw[show mq DD EE x y=ig from aR (by rintro⟨⟨q0,r0⟩,⟨q1,r1⟩,⟨q2,r2⟩,⟨q3,r3⟩⟩;exact k2 r0)])))
  (λk1=>chain [iX (0) (4) ae,iX (0) (2) ae,iX (1) (2) ae,.c (hd _ _ (.inl rfl) (.inl rfl):gW gd ((gZ x.lo)::(gZ y.lo)::(iP p)::[]) _),iX (0) (2) ae,iX (1) (2) ae,.c (hu _ _ (.inl rfl) (.inl rfl):gW gu ((gZ x.lo)::(gZ y.lo)::(iP p)::[]) _),tB 66 (aQ k1),.c nF]<|rQ (ib ig) (ib (mq DD EE x y)) (by rw[show mq DD EE x y=ig from aR (by rintro⟨⟨q0,r0⟩,⟨q1,r1⟩,⟨q2,r2⟩,⟨q3,r3⟩⟩;exact k1 q0)]))) ah 
theorem X5{y:Iv}(hy:y.ic)(hs:lK y≠0):y.lo.m≠0/\y.hi.m≠0:=by
 unfold lK at hs;have ha:y.all=false:=by
  cases h:y.all with
  |false=>rfl
  |true=>rw[h]at hs;exact absurd rfl hs
 obtain⟨v1,v2,v3⟩:=ph hy ha;rw[ha]at hs;simp only[bq,a7]at hs;have z:∀ d:Dy,d.m=0->d.iK=0:=λd h=>by unfold Dy.iK;rw[aS h]
 have hc:=CJ y.lo y.hi;rw[hc]at v3;constructor
 .intro h0
  have:=z _ h0;rw[this]at hs v3;split at hs
  .omega
  .split at hs
   .split at v3<;>omega
   .exact hs rfl
 .intro h0
  have:=z _ h0;rw[this]at hs v3;split at hs
  .split at v3<;>omega
  .split at hs
   .omega
   .exact hs rfl
theorem acq(a b:Dy){p:Nat}(up:Bool)(hp:1<=p)(ia:p<=4096):(kx a b p up).ic:=by
 unfold kx;split
 .exact rI
 .exact mu _ _ _ _ _ _ hp ia
theorem Fv(x y:Iv)(p:Nat)(hx:x.ic)(hy:y.ic)(im:8<=p)(ia:p<=512):gW 115 [(ib x),(ib y),(iP p)] (ib (iO x y p)):=by
 by_cases hk:(x.all||y.all)=true
 .exact tr true call115 func115 (chain [.o 9 (.e (y9 _ _):PV.le (.e (.sl true 2 7 λi_ j_=>(ja x++ja y).getD (i_*7+j_) (.v (.bool false)))) (.e (ij [x,y]))),.c (y8 _ _ af af:gW 93 [(ij [x,y])] _),tB 10 (by rw[hk];rfl:(!(x.all||y.all))=false),.c nF]<|rQ (ib ig) (ib (iO x y p)) (by rw[show iO x y p=ig by unfold iO;rw[aS hk]])) ah 
 .replace hk:(x.all||y.all)=false:=by simpa using hk
  have kC:x.all=false:=by cases h:x.all;rfl;rw[h]at hk;simp at hk
  have AD:y.all=false:=by cases h:y.all;rfl;rw[h]at hk;simp at hk
  obtain⟨v1,v2,v3⟩:=ph hx kC;obtain⟨v4,v5,v6⟩:=ph hy AD;exact tr true call115 func115 (chain [.o 9 (.e (y9 _ _):PV.le (.e (.sl true 2 7 λi_ j_=>(ja x++ja y).getD (i_*7+j_) (.v (.bool false)))) (.e (ij [x,y]))),.c (y8 _ _ af af:gW 93 [(ij [x,y])] _),tB 10 (by rw[hk];rfl:(!(x.all||y.all))=true),.c (vH _:gW 147 [(iP p)] _),tB 14 (pn.2 ⟨ae,ae⟩:(lE (p:Int))=true),.c (UK x y p 189 190 (λa b up=>jh (my a b) p up) (λa b up=>jx (my a b) p up) (λa b ha hb=>JI a b p (by rcases ha with rfl|rfl;exact v1;exact v2) (by rcases hb with rfl|rfl;exact v4;exact v5) im ia) (λa b ha hb=>JJ a b p (by rcases ha with rfl|rfl;exact v1;exact v2) (by rcases hb with rfl|rfl;exact v4;exact v5) im ia) (λa b up=>mu _ _ _ _ _ _ ae ae))]<|rQ (ib (mq (λa b up=>jh (my a b) p up) (λa b up=>jx (my a b) p up) x y)) (ib (iO x y p)) (by rw[show iO x y p=_ by unfold iO;rw[aR (by rw[hk];decide)]];rfl)) ah 
theorem UJ(x y:Iv)(p:Nat)(hx:x.ic)(hy:y.ic)(im:8<=p)(ia:p<=512):gW 128 [(ib x),(ib y),(iP p)] (ib (jT x y p)):=by
 by_cases hk:(x.all||y.all)=true
 .exact tr true call128 func128 (chain [.o 9 (.e (y9 _ _):PV.le (.e (.sl true 2 7 λi_ j_=>(ja x++ja y).getD (i_*7+j_) (.v (.bool false)))) (.e (ij [x,y]))),.c (y8 _ _ af af:gW 93 [(ij [x,y])] _),tB 10 (by rw[hk];rfl:(!(x.all||y.all))=false),.c nF]<|rQ (ib ig) (ib (jT x y p)) (by rw[show jT x y p=ig by unfold jT;rw[aS (by rw[hk];rfl)]])) ah 
 .replace hk:(x.all||y.all)=false:=by simpa using hk
  have kC:x.all=false:=by cases h:x.all;rfl;rw[h]at hk;simp at hk
  have AD:y.all=false:=by cases h:y.all;rfl;rw[h]at hk;simp at hk
  obtain⟨v1,v2,v3⟩:=ph hx kC;obtain⟨v4,v5,v6⟩:=ph hy AD;by_cases hs:lK y=0
  .exact tr true call128 func128 (chain [.o 9 (.e (y9 _ _):PV.le (.e (.sl true 2 7 λi_ j_=>(ja x++ja y).getD (i_*7+j_) (.v (.bool false)))) (.e (ij [x,y]))),.c (y8 _ _ af af:gW 93 [(ij [x,y])] _),tB 10 (by rw[hk];rfl:(!(x.all||y.all))=true),.c (vH _:gW 147 [(iP p)] _),tB 14 (pn.2 ⟨ae,ae⟩:(lE (p:Int))=true),.c (Jf y af),tB 20 (by rw[hs];rfl:((lK y)==0)=true),.c nF]<|rQ (ib ig) (ib (jT x y p)) (by rw[show jT x y p=ig by unfold jT;rw[aS (by rw[hk,aT hs];rfl)]])) ah 
  .obtain ⟨n1,n2⟩:=X5 hy hs
   exact tr true call128 func128 (chain [.o 9 (.e (y9 _ _):PV.le (.e (.sl true 2 7 λi_ j_=>(ja x++ja y).getD (i_*7+j_) (.v (.bool false)))) (.e (ij [x,y]))),.c (y8 _ _ af af:gW 93 [(ij [x,y])] _),tB 10 (by rw[hk];rfl:(!(x.all||y.all))=true),.c (vH _:gW 147 [(iP p)] _),tB 14 (pn.2 ⟨ae,ae⟩:(lE (p:Int))=true),.c (Jf y af),tB 20 (by simpa using hs:((lK y)==0)=false),.c (UK x y p 209 210 (λa b up=>kx a b p up) (λa b up=>nm a b p up) (λa b ha hb=>W6 a b p (by rcases ha with rfl|rfl;exact v1;exact v2) (by rcases hb with rfl|rfl;exact v4;exact v5) (by rcases hb with rfl|rfl;exact n1;exact n2) im ia) (λa b ha hb=>W7 a b p (by rcases ha with rfl|rfl;exact v1;exact v2) (by rcases hb with rfl|rfl;exact v4;exact v5) (by rcases hb with rfl|rfl;exact n1;exact n2) im ia) (λa b up=>acq a b up ae ae))]<|rQ (ib (mq (λa b up=>kx a b p up) (λa b up=>nm a b p up) x y)) (ib (jT x y p)) (by rw[show jT x y p=_ by unfold jT;rw[aR (by rw[hk,aU hs];decide)]])) ah 
theorem agt(d:RD)(h:d.Zero):gW 198 [(mf d)] (bP true):=by
 obtain⟨h1,h2,h3⟩:=h;exact tr true call198 func198 (chain [tB 4 (h1:d.neg=false),tB 10 (r7 (by rw[h2];rfl):((d.L.length:Int)==0)=true),tB 15 (by rw[h3];rfl:(d.e==0)=true)]<|.nil) ah 
theorem UP(d:RD)(h:¬d.Zero):gW 198 [(mf d)] (bP false):=by
 by_cases h1:d.neg=true
 .exact tr true call198 func198 (chain [tB 4 (h1:d.neg=true)]<|.nil) ah 
 .replace h1:d.neg=false:=by simpa using h1
  by_cases h2:d.L=[]
  .have h3:¬d.e=0:=λq=>h ⟨h1,h2,q⟩
   exact tr true call198 func198 (chain [tB 4 (h1:d.neg=false),tB 10 (r7 (by rw[h2];rfl):((d.L.length:Int)==0)=true),tB 15 (by simpa using h3:(d.e==0)=false)]<|.nil) ah 
  .exact tr true call198 func198 (chain [tB 4 (h1:d.neg=false),tB 10 (nv (λq=>h2 (gy.1 q)):((d.L.length:Int)==0)=false)]<|.nil) ah 
theorem ags(x:RI)(g:x.jg)(h:x.Ok):gW 121 [qR x] (bP true):=by
 have:=qY x.iv h.valid;rwa[<-Je,h.eq g]at this
theorem agq(x:RI)(g:x.jg)(h:¬x.Ok):gW 121 [(qR x)] (bP false):=by
 have ga:=g.lo;have gb:=g.hi;by_cases ha:x.all=true
 .by_cases h1:x.lo.Zero
  .have h2:¬x.hi.Zero:=λq=>h (.inl ⟨ha,h1,q⟩)
   exact tr true call121 func121 (chain [tB 5 (ha:x.all=true),.c (agt _ h1:gW 198 [(mf x.lo)] _),.c (UP _ h2:gW 198 [(mf x.hi)] _)]<|.nil) ah 
  .exact tr true call121 func121 (chain [tB 5 (ha:x.all=true),.c (UP _ h1:gW 198 [(mf x.lo)] _)]<|.nil) ah 
 .replace ha:x.all=false:=by simpa using ha
  by_cases h1:x.lo.Ok
  .by_cases h2:x.hi.Ok
   .have h3:¬jo x.lo.dy x.hi.dy<=0:=λq=>h (.inr ⟨ha,h1,h2,q⟩)
    have v1:=h1.valid;have v2:=h2.valid;have e1:qR x=ib x.iv:=by rw[<-Je,show x.iv.raw=x by show RI.mk x.lo.dy.raw x.hi.dy.raw x.all=x;rw[h1.eq ga,h2.eq gb]]
    rw[e1];exact tr true call121 func121 (chain [tB 5 (ha:x.iv.all=false),.c (qu _ af:gW 92 [(gZ x.iv.lo)] _),.c (qu _ af:gW 92 [(gZ x.iv.hi)] _),.c (oe _ _ af af:gW 122 [(gZ x.iv.lo),(gZ x.iv.hi)] _),tB 30 (aU h3)]<|.nil) ah 
   .exact tr true call121 func121 (chain [tB 5 (ha:x.all=false),.c (Bq _ af true (by simp[h1]):gW 92 [(mf x.lo)] _),.c (Bq _ af false (by simp[h2]):gW 92 [(mf x.hi)] _)]<|.nil) ah 
  .exact tr true call121 func121 (chain [tB 5 (ha:x.all=false),.c (Bq _ af false (by simp[h1]):gW 92 [(mf x.lo)] _)]<|.nil) ah 
theorem agr(x:RI)(g:x.jg):gW 121 [qR x] (bP (ny x)):=by
 by_cases h:x.Ok
 .rw [r8.2 h];exact ags x g h
 .rw [show ny x=false by simpa using λq=>h (r8.1 q)];exact agq x g h
abbrev kp(xs:List Iv):Nat->Nat->E:=λi j=>(ja (xs.getD i ig)).getD j .any
theorem Dt(x:Iv)(j:Nat)(hj:j<7):((ja x).getD j .any).nr 2=true:=by
 rcases j with _|_|_|_|_|_|_|j
 all_goals first|rfl|omega
theorem agy{T n:Nat}{xs:List Iv}{y:Iv}(hn:n=xs.length):
 Bx.le (.row true T (n+[y].length) 7 λi j=>if i<n then kp xs i j else(E.ml (ij [y])) (i-n) j) (.row true T (xs++[y]).length 7 (kp (xs++[y]))):=by
 subst hn;refine .row aj λi j hi hj=>⟨.iS ?_,Dt _ _ hj⟩
 by_cases h:i<xs.length
 .rw [aS h]
  show(ja (xs.getD i ig)).getD j .any=(ja ((xs++[y]).getD i ig)).getD j .any;congr 2;simp[aW,dL h]
 .have oH:i=xs.length:=by simp at hi;omega
  subst oH;rw[aR h,cU];show(ja y).getD j .any=(ja ((xs++[y]).getD xs.length ig)).getD j .any;congr 2;simp[aW]
theorem tU{α:Type}(y:α):[y].length=1:=rfl
theorem Oo{n i:Nat}{F:Nat->Iv}(h:i<n):((List.range n).map F).getD i ig=F i:=by
 simp[aW,h]
end Go.Proofs.YtkjkcjhacddojaaGreatDoor
namespace Go.Proofs.YtkjkcjhacddojaaGreatDoor.Fp
section
variable {a b:Dy} {k:Int}
end
theorem aeQ{m gm p:Nat}{e ge K:Int}(hp:1<=p)(hg:ie gm<=p)(pX:-16384<=ge)(k1:K<=e)(k2:K<=ge)
 (h:gm*2^(ge-K).toNat<=m*2^(e-K).toNat):gm*2^(ge-K).toNat<=kH m e false p false*2^(e+jc m e p-K).toNat:=by
 have hq:kH m e false p false=m/2^jc m e p:=by unfold kH;simp
 rw[hq];have hm:=bY m (2^jc m e p);have hr:=bh m (aZ (n:=jc m e p) (ag:0<2));obtain⟨k,hk⟩:∃ k,k=jc m e p:=⟨_,rfl⟩
 rw[<-hk]at hm hr ⊢;have e1:(e+(k:Int)-K).toNat=k+(e-K).toNat:= ae ;rw[e1,aX];generalize hE:2^(e-K).toNat=E at *
 have LX:0<E:=by rw[<-hE];exact aZ ag 
 have hmE:m*E<(m/2^k+1)*(2^k*E):=by
  rw[<-bd];refine cD ?_ LX;rw[bL,bK,bc];omega
 by_cases hc:e+k<=ge
 .
  have e2:(ge-K).toNat=(ge-(e+k)).toNat+(k+(e-K).toNat):= ae ;rw[e2,aX,aX 2 k,hE]at h ⊢;rw[<-bd]at h ⊢;generalize gm*2^(ge-(e+k)).toNat=g at *
  have:g<m/2^k+1:=by
   apply bG;intro h';have:=bE (2^k*E) (show m/2^k+1<=g by omega);omega
  exact bE _ ae 
 .by_cases rh:k=0
  .subst rh
   rw[bO,dG,bK];exact h
  .
   have hb:(ie m:Int)-p=k:=by unfold jc at hk;omega
   have E4:m≠0:=by intro h0;rw[h0]at hb;simp[ie]at hb;omega
   have h1:=rH E4;have h2:2^(ie m-1-k)<=m/2^k:=by
    rw[cM (aZ ag),<-aX];exact aY (bj ag (by have:=mY E4;omega)) h1
   have h3:gm<2^p:=kR.1 hg;refine aY (bE _ (cX h3)) (aY ?_ (bE _ h2));rw[<-hE,<-aX,<-aX,<-aX];exact bj ag ae 
theorem SK{m gm p:Nat}{e ge K:Int}(hp:1<=p)(hg:ie gm<=p)(pX:-16384<=ge)(k1:K<=e)(k2:K<=ge)
 (h:m*2^(e-K).toNat<=gm*2^(ge-K).toNat):kH m e false p true*2^(e+jc m e p-K).toNat<=gm*2^(ge-K).toNat:=by
 have TW:kH m e false p false=m/2^jc m e p:=by unfold kH;simp
 have Di:kH m e false p true=m/2^jc m e p+if m%2^jc m e p≠0 then 1 else 0:=by unfold kH;simp
 have hm:=bY m (2^jc m e p);obtain⟨k,hk⟩:∃ k,k=jc m e p:=⟨_,rfl⟩
 rw[Di];rw[<-hk]at hm ⊢;have e1:(e+(k:Int)-K).toNat=k+(e-K).toNat:= ae ;rw[e1,aX];generalize hE:2^(e-K).toNat=E at *
 have LX:0<E:=by rw[<-hE];exact aZ ag 
 by_cases hr:m%2^k=0
 .rw [aR ae,bB,<-bd]
  refine aY (fL ?_) h;congr 1;rw[bc];omega
 .rw [aS hr]
  have rh:k≠0:=by intro h0;rw[h0,bO,cI]at hr;exact hr rfl
  have iE:m/2^k*(2^k*E)<gm*2^(ge-K).toNat:=by
   refine bF ?_ h;rw[<-bd];refine cD ?_ LX;rw[bc];omega
  by_cases hc:e+k<=ge
  .have e2:(ge-K).toNat=(ge-(e+k)).toNat+(k+(e-K).toNat):= ae 
   have e3:gm*2^(ge-K).toNat=gm*2^(ge-(e+k)).toNat*(2^k*E):=by rw[e2,aX,aX 2 k,hE,bd]
   rw[e3]at iE ⊢;generalize gm*2^(ge-(e+k)).toNat=g at *
   have:m/2^k<g:=aof iE;exact bE _ this
  .
   exfalso;have hb:(ie m:Int)-p=k:=by unfold jc at hk;omega
   have E4:m≠0:=by intro h0;rw[h0]at hr;simp at hr
   have h1:=rH E4;have pA:=mY E4;have h3:gm<2^p:=kR.1 hg;have h4:gm*2^(ge-K).toNat<=2^(ie m-1)*E:=by
    refine aY (bE _ (cX h3)) ?_;rw[<-hE,<-aX,<-aX];exact bj ag ae 
   have h5:2^(ie m-1-k)<=m/2^k:=by
    rw[cM (aZ ag),<-aX];exact aY (bj ag ae) h1
   have h6:2^(ie m-1)*E<=m/2^k*(2^k*E):=by
    rw[<-bd];refine bE _ ?_;have:=bE (2^k) h5;rw[<-aX]at this;exact aY (bj ag ae) this
   omega
def P2(k:Int):Rat:=(2:Rat)^k
theorem ni(k:Int):0<P2 k:=Rat.zpow_pos ag 
theorem qq(a b:Int):P2 (a+b)=P2 a*P2 b:=Rat.zpow_add ag a b
theorem uY(n:Nat):P2 (n:Int)=((2^n:Nat):Rat):=by unfold P2;rw[Rat.zpow_natCast];simp
theorem Kw:P2 0=1:=by have:=uY 0;simpa using this
theorem Ee{e k:Int}(h:k<=e):P2 e=((2^(e-k).toNat:Nat):Rat)*P2 k:=by
 rw[<-uY,<-qq];congr 1;omega
theorem vK{x y:Rat}(k:Int):x*P2 k<=y*P2 k↔x<=y:=
 ⟨λh=>eB h (ni k),λh=>b9 h (bw (ni k))⟩
theorem sB{m n:Nat}{e f K:Int}(h1:K<=e)(h2:K<=f):(m:Rat)*P2 e<=(n:Rat)*P2 f↔m*2^(e-K).toNat<=n*2^(f-K).toNat:=by
 rw[Ee h1,Ee h2,<-en,<-en,vK,<-cP,<-cP,cY]
def Dy.q(d:Dy):Rat:=((d.num d.e:Int):Rat)*P2 d.e
theorem xW{d:Dy}{k:Int}(h:nS d k):d.q=((d.num k:Int):Rat)*P2 k:=by
 unfold Dy.q;rcases h with h|h
 .rw [vO h,vO h];simp
 .rw [Ju h (b6 _),Ee h,<-en,Rat.intCast_mul,dO]
theorem po(a b:Dy):jo a b<=0↔a.q<=b.q:=by
 obtain⟨k,ka,kb⟩:∃ k:Int,k<=a.e/\k<=b.e:=⟨min a.e b.e,ae,ae⟩
 rw[oB (.inr ka) (.inr kb),xW (.inr ka),xW (.inr kb),vK,fO]
theorem Od(a b:Dy):(iJ a b).q=a.q+b.q:=by
 obtain⟨k,ka,kb⟩:∃ k:Int,k<=a.e/\k<=b.e:=⟨min a.e b.e,ae,ae⟩
 rw[xW (GV (.inr ka) (.inr kb)),xW (.inr ka),xW (.inr kb),J7 (.inr ka) (.inr kb),Rat.intCast_add,Rat.add_mul]
theorem lX(a:Dy):(iF a).q = -a.q:=by
 rw[xW (Eg (.inr (b6 a.e))),FU,fP,fQ];rfl
theorem qP(s:Bool)(m:Nat)(e:Int):(canon s m e).q=if s then -((m:Rat)*P2 e)else(m:Rat)*P2 e:=by
 rw[xW (Ac (b6 e)),B4 (b6 e)];have:(e-e).toNat=0:= ae ;rw[this];cases s<;>simp[fP,fQ,dO]
theorem qB(a:Dy):a.q=if a.neg then -((a.m:Rat)*P2 a.e)else(a.m:Rat)*P2 a.e:=by
 unfold Dy.q Dy.num Dy.jS;have:(a.e-a.e).toNat=0:= ae ;rw[this];cases a.neg<;>simp[fP,fQ,dO]
theorem vS(a b:Dy):(kO a b).q=a.q*b.q:=by
 unfold kO;rw[qP,qB a,qB b,qq,cP];cases a.neg<;>cases b.neg<;>simp<;>grind
theorem rk:jA.q=0:=by rw[qB];simp[jA]
theorem JE{a b:Dy}(ha:a.kN)(hb:b.kN)(h:a.q=b.q):a=b:=by
 obtain⟨k,ka,kb⟩:∃ k:Int,k<=a.e/\k<=b.e:=⟨min a.e b.e,ae,ae⟩
 refine Ln ha hb (.inr ka) (.inr kb) ?_;rw[xW (.inr ka),xW (.inr kb)]at h;have h1:=(vK (x:=((a.num k:Int):Rat)) (y:=((b.num k:Int):Rat)) k).1 (by rw[h];exact bV);have h2:=(vK (x:=((b.num k:Int):Rat)) (y:=((a.num k:Int):Rat)) k).1 (by rw[h];exact bV);rw[fO]at h1 h2;omega
theorem xX(n:Int):(jf n).q=(n:Rat):=by
 unfold jf;rw[xW (k:=0) (KB (b6 0)),NL (b6 0),Kw];simp
theorem zC(d:Dy):0<=(lh d).q/\d.q<=(lh d).q /\ -d.q<=(lh d).q/\((lh d).q=d.q\/(lh d).q = -d.q):=by
 have h:(lh d).q=(d.m:Rat)*P2 d.e:=by rw[qB];rfl
 have h0:0<=(d.m:Rat)*P2 d.e:=bM (cG) (bw (ni _));rw[h,qB d];cases d.neg<;>simp<;>grind
theorem oD(d:Dy):(0<d.iK↔0<d.q)/\(d.iK<0↔d.q<0):=by
 have h:=ni d.e;have hm:d.m≠0->0<(d.m:Rat)*P2 d.e:=λh0=>dP (fo.2 ae) h
 rw[qB];unfold Dy.iK;by_cases h0:d.m=0
 .simp [h0]
 .have:=hm h0
  rw[aR h0];cases d.neg<;>simp<;>grind
theorem F7(a b:Dy):a.q<=(iR a b).q/\b.q<=(iR a b).q/\((iR a b).q=a.q\/(iR a b).q=b.q):=
 ⟨(po _ _).1 (DC a b),(po _ _).1 (Vp a b),by unfold iR;split;exact .inr rfl;exact .inl rfl⟩
theorem B9(a b:Dy):(iU a b).q<=a.q/\(iU a b).q<=b.q/\((iU a b).q=a.q\/(iU a b).q=b.q):=
 ⟨(po _ _).1 (FE a b),(po _ _).1 (Vs a b),by unfold iU;split;exact .inr rfl;exact .inl rfl⟩
def GM(p:Nat)(g:Rat):Prop:=∃ (m:Nat) (e:Int),ie m<=p /\ -16384<=e/\(ie m:Int)+e<=16384/\g=(m:Rat)*P2 e
def G(p:Nat)(g:Rat):Prop:=GM p g\/GM p (-g)
theorem GM.FT{p:Nat}{g:Rat}(h:GM p g):0<=g:=by
 obtain⟨m,e,_,_,_,rfl⟩:=h;exact bM (cG) (bw (ni _))
theorem wb(p:Nat):GM p 0:=⟨0,0,by simp[q8],ae,by simp[q8],aj⟩
theorem G.neg{p:Nat}{g:Rat}(h:G p g):G p (-g):=by
 rcases h with h|h
 .exact .inr (by rw[fp];exact h)
 .exact .inl h
theorem G.pos{p:Nat}{g:Rat}(h:G p g)(h0:0<=g):GM p g:=by
 rcases h with h|h
 .exact h
 .have:=h.FT
  have:g=0:= aq ;rw[this];exact wb p
theorem QD(k:Nat):ie (2^k)=k+1:=u4 (aV _) (ez ag ae)
theorem u5:ie 1=1:=QD 0
section
variable {m p:Nat} {e:Int}
theorem YV(hp:1<=p)(ia:p<=4096)(ho:lV m e false p false=true):
 GM p (((2^p-1:Nat):Rat)*P2 (16384-p))/\((2^p-1:Nat):Rat)*P2 (16384-p)<=(m:Rat)*P2 e/\∀ g,GM p g->g<=((2^p-1:Nat):Rat)*P2 (16384-p):=by
 have wW:2<=2^p:=by
  have:=bj (n:=2) ag hp;omega
 have hb:ie (2^p-1)=p:=by
  obtain⟨j,rfl⟩:∃ j,p=j+1:=⟨p-1,ae⟩
  have h2:2^(j+1)=2^j*2:=a6 _ _;have h3:=aZ (n:=j) (ag:0<2);exact u4 ae ae 
 refine⟨⟨_,_,fL hb,ae,ae,rfl⟩,?_,?_⟩
 .obtain ⟨c1,c2⟩:=Hp m e p
  unfold lV at ho;simp only[bu,bU]at ho;obtain⟨o1,o2⟩:=ho;have hq:=rH o1;have pA:=mY o1;obtain⟨K,k1,k2⟩:∃ K:Int,K<=e/\K<=16384-p:=⟨min e (16384-p),ae,ae⟩
  rw[sB k2 k1];have h1:2^(ie (kH m e false p false)-1)*2^jc m e p<=m:=aY (bE _ hq) c1;have h2:=bE (2^(e-K).toNat) h1;rw[<-aX,<-aX]at h2;refine aY (bE _ (dm _ _)) (aY ?_ h2);rw[<-aX];exact bj ag ae 
 .rintro g ⟨gm,ge,b1,b2,b3,rfl⟩
  by_cases hc:ge<=16384-p
  .have:gm<2^p:=kR.1 b1
   rw[sB (K:=ge) (b6 _) hc];have e0:(ge-ge).toNat=0:= ae ;rw[e0,bO,bQ];exact aY (show gm<=2^p-1 by omega) (fW _ (aZ ag))
  .rw [sB (K:=16384-p) ae (b6 _)]
   have e0:((16384:Int)-p-(16384-p)).toNat=0:= ae ;rw[e0,bO,bQ];have h1:gm<2^(16384-ge).toNat:=by
    by_cases h0:gm=0
    .rw [h0];exact aZ ag 
    .exact kR.1 ae 
   have h2:=cD h1 (aZ (n:=(ge-(16384-p)).toNat) (ag:0<2));by_cases hg:ge<=16384
   .rw [<-aX,show(16384-ge).toNat+(ge-(16384-(p:Int))).toNat=p by omega]at h2
    omega
   .have:gm=0:=by
     rw[show(16384-ge).toNat=0 by omega]at h1;simpa using h1
    rw[this,cr];omega
theorem YU(hp:1<=p)(ho:¬lV m e false p false=true):
 GM p (((kH m e false p false:Nat):Rat)*P2 (e+jc m e p))/\((kH m e false p false:Nat):Rat)*P2 (e+jc m e p)<=(m:Rat)*P2 e /\
 ∀ g,GM p g->g<=(m:Rat)*P2 e->g<=((kH m e false p false:Nat):Rat)*P2 (e+jc m e p):=by
 obtain⟨c1,c2⟩:=Hp m e p;have hk:-16384<=e+(jc m e p:Int):=by unfold jc;omega
 refine⟨?_,?_,?_⟩
 .by_cases h0:kH m e false p false=0
  .rw [h0];simpa using wb p
  .have hq:kH m e false p false<2^p:=by
    have:=Rt m e p;unfold kH;simpa using this
   unfold lV at ho;simp only[cW,h0,ev,fK,dF,bU]at ho;exact⟨_,_,kR.2 hq,hk,ae,rfl⟩
 .rw [sB (K:=e) ae (b6 _)]
  rw[show(e-e).toNat=0 by omega,show(e+(jc m e p:Int)-e).toNat=jc m e p by omega,bO,bQ];exact c1
 .rintro g ⟨gm,ge,b1,b2,b3,rfl⟩ h
  obtain⟨K,k1,k2⟩:∃ K:Int,K<=e/\K<=ge:=⟨min e ge,ae,ae⟩
  rw[sB k2 k1]at h;rw[sB (K:=K) k2 ae];exact aeQ hp b1 b2 k1 k2 h
theorem QX(hp:1<=p)(ho:lV m e false p true=true)(g:Rat)(hg:GM p g):¬(m:Rat)*P2 e<=g:=by
 obtain⟨gm,ge,b1,b2,b3,rfl⟩:=hg;intro h;obtain⟨K,k1,k2⟩:∃ K:Int,K<=e/\K<=ge:=⟨min e ge,ae,ae⟩
 rw[sB k1 k2]at h;have h:=SK hp b1 b2 k1 k2 h;unfold lV at ho;simp only[bu,bU]at ho;obtain⟨o1,o2⟩:=ho;have hq:=rH o1;have pA:=mY o1;have h3:gm<2^ie gm:=oY gm;have h4:=cD h3 (aZ (n:=(ge-K).toNat) (ag:0<2));have h5:=bE (2^(e+(jc m e p:Int)-K).toNat) hq;rw[<-aX]at h4 h5;have h6:2^(ie gm+(ge-K).toNat)<=2^(ie (kH m e false p true)-1+(e+(jc m e p:Int)-K).toNat):=bj ag ae;omega
theorem QW(hp:1<=p)(ho:¬lV m e false p true=true):
 GM p (((kH m e false p true:Nat):Rat)*P2 (e+jc m e p))/\(m:Rat)*P2 e<=((kH m e false p true:Nat):Rat)*P2 (e+jc m e p) /\
 ∀ g,GM p g->(m:Rat)*P2 e<=g->((kH m e false p true:Nat):Rat)*P2 (e+jc m e p)<=g:=by
 obtain⟨c1,c2⟩:=Hp m e p;have hk:-16384<=e+(jc m e p:Int):=by unfold jc;omega
 refine⟨?_,?_,?_⟩
 .by_cases h0:kH m e false p true=0
  .rw [h0];simpa using wb p
  .unfold lV at ho
   simp only[cW,h0,ev,fK,dF,bU]at ho;rcases Nat.lt_or_eq_of_le (Rh m e false p true)with hq|hq
   .exact ⟨_,_,kR.2 hq,hk,ae,rfl⟩
   .rw [hq]at ho ⊢
    rw[QD]at ho;refine⟨1,p+(e+jc m e p),by rw[u5];exact hp,ae,by rw[u5];omega,?_⟩;rw[qq (p:Int),uY p,show((1:Nat):Rat)=1 from rfl,eC]
 .rw [sB (K:=e) (b6 _) ae]
  rw[show(e-e).toNat=0 by omega,show(e+(jc m e p:Int)-e).toNat=jc m e p by omega,bO,bQ];exact c2
 .rintro g ⟨gm,ge,b1,b2,b3,rfl⟩ h
  obtain⟨K,k1,k2⟩:∃ K:Int,K<=e/\K<=ge:=⟨min e ge,ae,ae⟩
  rw[sB k1 k2]at h;rw[sB (K:=K) ae k2];exact SK hp b1 b2 k1 k2 h
end
def Dn(p:Nat)(v:Rat)(D:Dy)(E:Int):Prop:=(E=0->G p D.q/\D.q<=v)/\∀ g,G p g->g<=v->E=0/\g<=D.q
def Up(p:Nat)(v:Rat)(D:Dy)(E:Int):Prop:=(E=0->G p D.q/\v<=D.q)/\∀ g,G p g->v<=g->E=0/\D.q<=g
theorem Dn.of{p:Nat}{v w:Rat}{D:Dy}{E:Int}(h:Dn p v D E)(k:∀ g,G p g->(g<=v↔g<=w)):Dn p w D E:=
 ⟨λe=>⟨(h.1 e).1,(k _ (h.1 e).1).1 (h.1 e).2⟩,λg hg hw=>h.2 g hg ((k g hg).2 hw)⟩
theorem Up.of{p:Nat}{v w:Rat}{D:Dy}{E:Int}(h:Up p v D E)(k:∀ g,G p g->(v<=g↔w<=g)):Up p w D E:=
 ⟨λe=>⟨(h.1 e).1,(k _ (h.1 e).1).1 (h.1 e).2⟩,λg hg hw=>h.2 g hg ((k g hg).2 hw)⟩
theorem Et(neg:Bool)(m:Nat)(e:Int){p:Nat}(hp:1<=p)(ia:p<=4096):Dn p (canon neg m e).q (jR neg m e false p false) (jH neg m e false p false):=by
 have hv:0<=(m:Rat)*P2 e:=bM (cG) (bw (ni _));rw[qP];cases neg
 .
  have hE:jH false m e false p false=0:=by unfold jH;simp
  rw[hE];unfold jR;simp only[bne_self_eq_false,bq,a7];by_cases ho:lV m e false p false=true
  .obtain ⟨t1,t2,t3⟩:=YV hp ia ho
   rw[aS ho];(first|unfold Dn|unfold Up);rw[qP];simp only[bq,a7];refine⟨λ_=>⟨.inl t1,t2⟩,λg hg hle=>⟨trivial,?_⟩⟩;by_cases h0:0<=g
   .exact t3 g (hg.pos h0)
   .have:=t1.FT;grind
  .obtain ⟨t1,t2,t3⟩:=YU hp ho
   rw[aR ho];(first|unfold Dn|unfold Up);rw[qP];simp only[bq,a7];refine⟨λ_=>⟨.inl t1,t2⟩,λg hg hle=>⟨trivial,?_⟩⟩;by_cases h0:0<=g
   .exact t3 g (hg.pos h0) hle
   .have:=t1.FT;grind
 .unfold jR jH
  simp only[Bool.bne_false,Bool.and_true,bn];by_cases ho:lV m e false p true=true
  .rw [aS ho,aS ho]
   refine⟨λh=>by simp at h,λg hg hle=>?_⟩;exact absurd (show(m:Rat)*P2 e <= -g by grind) (QX hp ho _ (hg.neg.pos aq))
  .obtain ⟨t1,t2,t3⟩:=QW hp ho
   rw[aR ho,aR ho];(first|unfold Dn|unfold Up);rw[qP];simp only[bn];refine⟨λ_=>⟨.inr (by rw[fp];exact t1),aq⟩,λg hg hle=>⟨trivial,?_⟩⟩;have:=t3 (-g) (hg.neg.pos aq) aq 
   grind
theorem Eu(neg:Bool)(m:Nat)(e:Int){p:Nat}(hp:1<=p)(ia:p<=4096):Up p (canon neg m e).q (jR neg m e false p true) (jH neg m e false p true):=by
 have hv:0<=(m:Rat)*P2 e:=bM (cG) (bw (ni _));rw[qP];cases neg
 .unfold jR jH
  simp only[Bool.bne_true,dz,Bool.and_true,bn,bq,a7];by_cases ho:lV m e false p true=true
  .rw [aS ho,aS ho]
   refine⟨λh=>by simp at h,λg hg hle=>?_⟩;exact absurd hle (QX hp ho _ (hg.pos aq))
  .obtain ⟨t1,t2,t3⟩:=QW hp ho
   rw[aR ho,aR ho];(first|unfold Dn|unfold Up);rw[qP];simp only[bq,a7];exact⟨λ_=>⟨.inl t1,t2⟩,λg hg hle=>⟨trivial,t3 g (hg.pos aq) hle⟩⟩
 .have hE:jH true m e false p true=0:=by unfold jH;simp
  rw[hE];unfold jR;simp only[bne_self_eq_false,bq,a7,bn];by_cases ho:lV m e false p false=true
  .obtain ⟨t1,t2,t3⟩:=YV hp ia ho
   rw[aS ho];(first|unfold Dn|unfold Up);rw[qP];simp only[bn];refine⟨λ_=>⟨.inr (by rw[fp];exact t1),aq⟩,λg hg hle=>⟨trivial,?_⟩⟩;by_cases h0:0 <= -g
   .have:=t3 (-g) (hg.neg.pos h0);grind
   .have:=t1.FT;grind
  .obtain ⟨t1,t2,t3⟩:=YU hp ho
   rw[aR ho];(first|unfold Dn|unfold Up);rw[qP];simp only[bn];refine⟨λ_=>⟨.inr (by rw[fp];exact t1),aq⟩,λg hg hle=>⟨trivial,?_⟩⟩;by_cases h0:0 <= -g
   .have:=t3 (-g) (hg.neg.pos h0) aq;grind
   .have:=t1.FT;grind
theorem tV{d:Dy}(hd:d.kN){p:Nat}(hp:1<=p)(ia:p<=4096):Dn p d.q (jh d p false) (jx d p false):=by
 have:=Et d.neg d.m d.e hp ia;rwa[hd.CF]at this
theorem uM{d:Dy}(hd:d.kN){p:Nat}(hp:1<=p)(ia:p<=4096):Up p d.q (jh d p true) (jx d p true):=by
 have:=Eu d.neg d.m d.e hp ia;rwa[hd.CF]at this
theorem LO{N p:Nat}{e:Int}(hb:p<ie N){g:Rat}(hg:GM p g):g<=(N:Rat)*P2 e\/((N+1:Nat):Rat)*P2 e<=g:=by
 obtain⟨gm,ge,b1,b2,b3,rfl⟩:=hg;by_cases hc:e<=ge
 .rw [sB (K:=e) hc (b6 _),sB (K:=e) (b6 _) hc,show(e-e).toNat=0 by omega]
  omega
 .left
  rw[sB (K:=ge) (b6 _) ae,show(ge-ge).toNat=0 by omega,bO,bQ];have h1:gm<2^p:=kR.1 b1;have h2:2^p<=N:=sA.1 hb;exact aY (cX (bF h1 h2)) (fW _ (aZ ag))
theorem Qw{N p:Nat}{e:Int}(hb:p<ie N){x y:Rat}(x1:(N:Rat)*P2 e<x)(x2:x<((N+1:Nat):Rat)*P2 e)(y1:(N:Rat)*P2 e<y)(y2:y<((N+1:Nat):Rat)*P2 e){g:Rat}(hg:G p g):
 (g<=x↔g<=y)/\(x<=g↔y<=g)/\(g <= -x↔g <= -y)/\(-x<=g ↔ -y<=g):=by
 have hv:0<=(N:Rat)*P2 e:=bM (cG) (bw (ni _));have hG:∀ g,G p g->g<=(N:Rat)*P2 e\/((N+1:Nat):Rat)*P2 e<=g:=by
  intro g hg;by_cases h0:0<=g
  .exact LO hb (hg.pos h0)
  .left;grind
 have h1:=hG g hg;have h2:=hG (-g) hg.neg;generalize (N:Rat)*P2 e=A at *
 generalize ((N+1:Nat):Rat)*P2 e=B at *
 refine⟨?_,?_,?_,?_⟩<;>constructor<;>intro h<;>grind
theorem CM{N p:Nat}(E:Int)(hb:p<ie N)(neg up:Bool):jR neg N E true p up=jR neg (2*N+1) (E-1) false p up/\jH neg N E true p up=jH neg (2*N+1) (E-1) false p up:=by
 have h1:(2*N+1)/2^1=N:= ae ;have h:=Ho (N:=2*N+1) (E:=E-1) (more:=false) (d:=1) (p:=p) neg up (by rw[h1];exact hb);have h2:decide ((2*N+1)%2^1≠0)=true:= aj ;rw[h1,h2,show E-1+((1:Nat):Int)=E by omega]at h;exact h
theorem Le{a b:Dy}(b0:b.m≠0){p:Nat}(hp:1<=p)(ia:p<=4096):Dn p (a.q/b.q) (kx a b p false) (nm a b p false)/\Up p (a.q/b.q) (kx a b p true) (nm a b p true):=by
 by_cases a0:a.m=0
 .have hq:a.q=0:=by rw[qB,a0];simp
  have h0:(0:Rat)/b.q=0:=by rw[cC,fR]
  unfold kx nm;rw[hq,h0,aS a0,aS a0,aS a0,aS a0];have hz:G p 0:=.inl (wb p);exact⟨⟨λ_=>⟨by rw[rk];exact hz,by rw[rk];exact bV⟩,λg _ h=>⟨rfl,by rw[rk];exact h⟩⟩,⟨λ_=>⟨by rw[rk];exact hz,by rw[rk];exact bV⟩,λg _ h=>⟨rfl,by rw[rk];exact h⟩⟩⟩
 .have hb:=Lf a0 b0 p 2 ag 
  unfold kx nm;rw[aR a0,aR a0,aR a0,aR a0];generalize hk:kq a b p 2=k at *
  generalize hs:(a.neg != b.neg)=s;generalize hE:a.e-b.e-(k:Int)=E0;have hB:(0:Rat)<(b.m:Rat):=fo.2 ae;have SW:=ni b.e;have hP:=ni E0;obtain⟨w,hw⟩:∃ w:Rat,w=(a.m:Rat)*P2 a.e/((b.m:Rat)*P2 b.e):=⟨_,rfl⟩
  have Ue:w*((b.m:Rat)*P2 b.e)=(a.m:Rat)*P2 a.e:=by
   have:(b.m:Rat)*P2 b.e≠0:=by have:=dP hB SW;grind
   rw[hw];exact dq this
  have kW:a.q/b.q=if s then -w else w:=by
   have hbq:b.q≠0:=by
    have:=dP hB SW;rw[qB b];cases b.neg<;>simp<;>grind
   have hq:(if s then -w else w)*b.q=a.q:=by
    rw[qB a,qB b,<-hs,<-Ue];cases a.neg<;>cases b.neg<;>simp<;>grind
   rw[<-hq,an4 hbq]
  have Mm:=bY (a.m*2^k) b.m;have hr:=bh (a.m*2^k) (show 0<b.m by omega);generalize hN:a.m*2^k/b.m=N at *
  generalize hR:a.m*2^k%b.m=R at *
  have afi:(b.m:Rat)*(N:Rat)+(R:Rat)=(a.m:Rat)*((2^k:Nat):Rat):=by rw[<-cP,<-cP,<-dQ,Mm]
  have hae:P2 a.e=((2^k:Nat):Rat)*P2 b.e*P2 E0:=by rw[<-uY,<-qq,<-qq];congr 1;omega
  have I4:w*(b.m:Rat)=((b.m:Rat)*(N:Rat)+(R:Rat))*P2 E0:=by
   have:w*(b.m:Rat)*P2 b.e=((b.m:Rat)*(N:Rat)+(R:Rat))*P2 E0*P2 b.e:=by
    rw[afi,en,Ue,hae];grind
   have jJ:P2 b.e≠0:= aq ;have h2:=congrArg (· / P2 b.e) this;simp only[an4 jJ]at h2;exact h2
  by_cases h0:R=0
  .have I3:w=(N:Rat)*P2 E0:=by
    rw[h0]at I4;have jJ:(b.m:Rat)≠0:= aq ;have h2:w*(b.m:Rat)=((N:Rat)*P2 E0)*(b.m:Rat):=by rw[I4];simp;grind
    have h3:=congrArg (· / (b.m:Rat)) h2;simp only[an4 jJ]at h3;exact h3
   have hc:a.q/b.q=(canon s N E0).q:=by rw[kW,qP,I3]
   rw[hc,aU (by simpa using h0)];exact⟨Et _ _ _ hp ia,Eu _ _ _ hp ia⟩
  .have vu:(0:Rat)<(R:Rat):=fo.2 ae 
   have hRb:(R:Rat)<(b.m:Rat):=Rat.natCast_lt_natCast.2 hr;have w1:(N:Rat)*P2 E0<w:=by
    apply aog (c:=(b.m:Rat)) _ (bw hB);rw[I4];have:=dP vu hP
    grind
   have w2:w<((N+1:Nat):Rat)*P2 E0:=by
    apply aog (c:=(b.m:Rat)) _ (bw hB);rw[I4,dQ];have:=dP (show(0:Rat)<(b.m:Rat)-(R:Rat)by grind) hP;simp
    grind
   have hh:P2 E0=2*P2 (E0-1):=by
    rw[Ee (show E0-1<=E0 by omega),show(E0-(E0-1)).toNat=1 by omega];simp
   have v1:(N:Rat)*P2 E0<((2*N+1:Nat):Rat)*P2 (E0-1):=by
    have:=ni (E0-1);rw[hh,dQ,cP];simp;grind
   have v2:((2*N+1:Nat):Rat)*P2 (E0-1)<((N+1:Nat):Rat)*P2 E0:=by
    have:=ni (E0-1);rw[hh,dQ,cP,dQ];simp;grind
   rw[aT (by simpa using h0),(CM E0 hb s false).1,(CM E0 hb s false).2,(CM E0 hb s true).1,(CM E0 hb s true).2,kW];have A:=Et s (2*N+1) (E0-1) hp ia;have B:=Eu s (2*N+1) (E0-1) hp ia;rw[qP]at A B;refine⟨A.of λg hg=>?_,B.of λg hg=>?_⟩
   .obtain ⟨k1,k2,k3,k4⟩:=Qw hb v1 v2 w1 w2 hg
    cases s
    .exact k1
    .exact k3
   .obtain ⟨k1,k2,k3,k4⟩:=Qw hb v1 v2 w1 w2 hg
    cases s
    .exact k2
    .exact k4
def Iv.jU(x:Iv)(r:Rat):Prop:=x.all=true\/(x.lo.q<=r/\r<=x.hi.q)
def Sub(x y:Iv):Prop:=y.all=true\/(x.all=false/\y.lo.q<=x.lo.q/\x.hi.q<=y.hi.q)
theorem Sub.refl(x:Iv):Sub x x:=by
 cases h:x.all
 .exact .inr ⟨h,bV,bV⟩
 .exact .inl h
theorem Sub.jU{x y:Iv}(h:Sub x y){r:Rat}(k:x.jU r):y.jU r:=by
 rcases h with h|⟨h1,h2,h3⟩
 .exact .inl h
 .rcases k with k|⟨k1,k2⟩
  .rw [h1]at k;cases k
  .exact .inr ⟨aq,aq⟩
theorem Sub.qN{x y:Iv}(h:Sub x y)(k:y.all=false):x.all=false/\y.lo.q<=x.lo.q/\x.hi.q<=y.hi.q:=by
 rcases h with h|h
 .rw [h]at k;cases k
 .exact h
theorem Iv.ic.q{x:Iv}(h:x.ic):x.lo.q<=x.hi.q:=by
 rcases h with⟨_,h2,h3⟩|⟨_,_,_,h⟩
 .rw [h2,h3];exact bV
 .exact (po _ _).1 h
theorem Iv.ic.wB{x:Iv}(h:x.ic):x.lo.kN/\x.hi.kN:=by
 rcases h with⟨_,h2,h3⟩|⟨_,h2,h3,_⟩
 .rw [h2,h3];exact⟨rI.canon,rI.canon⟩
 .exact ⟨h2.canon,h3.canon⟩
theorem Iv.ic.xG{x:Iv}(h:x.ic):x.jU x.lo.q:=.inr ⟨bV,h.q⟩
theorem Iv.ic.Bv{x:Iv}(h:x.ic):x.jU x.hi.q:=.inr ⟨h.q,bV⟩
structure zZ(p:Nat)(S:Rat->Prop)(X:Iv):Prop where
 jU:∀ r,S r->X.jU r
 on:X.all=false->G p X.lo.q/\G p X.hi.q
 xf:∀ L U,G p L->G p U->(∀ r,S r->L<=r/\r<=U)->X.all=false/\L<=X.lo.q/\X.hi.q<=U
theorem zZ.sub{p:Nat}{S T:Rat->Prop}{X Y:Iv}(h:zZ p S X)(k:zZ p T Y)(hs:∀ r,S r->T r):Sub X Y:=by
 cases hy:Y.all
 .right
  obtain⟨k1,k2⟩:=k.on hy;refine h.xf _ _ k1 k2 λr hr=>?_
  rcases k.jU r (hs r hr)with h1|h1
  .rw [hy]at h1;cases h1
  .exact h1
 .exact .inl hy
theorem Ei{x y:Iv}(hx:x.ic)(hy:y.ic)(xa:x.all=false)(ya:y.all=false){p:Nat}(hp:1<=p)(ia:p<=4096):
 zZ p (λr=>∃ a b,x.jU a/\y.jU b/\r=a+b) (jl x y p):=by
 have A:=tV (Bk hx.wB.1 hy.wB.1) hp ia;have B:=uM (Bk hx.wB.2 hy.wB.2) hp ia;rw[Od]at A B;unfold jl kI;rw[xa,ya];simp only[gz,bq,a7];have jU:∀ r,(∃ a b,x.jU a/\y.jU b/\r=a+b)->x.lo.q+y.lo.q<=r/\r<=x.hi.q+y.hi.q:=by
  rintro r ⟨a,b,ha,hb,rfl⟩;rcases ha with ha|ha
  .rw [xa]at ha;cases ha
  .rcases hb with hb|hb
   .rw [ya]at hb;cases hb
   .grind
 have xf:∀ L U,G p L->G p U->(∀ r,(∃ a b,x.jU a/\y.jU b/\r=a+b)->L<=r/\r<=U) ->
  (jx (iJ x.lo y.lo) p false=0/\L<=(jh (iJ x.lo y.lo) p false).q)/\jx (iJ x.hi y.hi) p true=0/\(jh (iJ x.hi y.hi) p true).q<=U:=λL U hL hU h=>
  ⟨A.2 L hL (h _ ⟨_,_,hx.xG,hy.xG,rfl⟩).1,B.2 U hU (h _ ⟨_,_,hx.Bv,hy.Bv,rfl⟩).2⟩
 split
 .rename_i he
  refine⟨λ_ _=>.inl rfl,λh=>absurd h ag,λL U hL hU h=>?_⟩;obtain⟨⟨e1,_⟩,e2,_⟩:=xf L U hL hU h;rcases he with he|he
  .exact absurd e1 he
  .exact absurd e2 he
 .rename_i he
  obtain⟨a1,a2⟩:=A.1 ae;obtain⟨b1,b2⟩:=B.1 ae;refine⟨λr hr=>.inr ?_,λ_=>⟨a1,b1⟩,λL U hL hU h=>?_⟩
  .obtain ⟨h1,h2⟩:=jU r hr
   exact⟨bA a2 h1,bA h2 b2⟩
  .obtain ⟨⟨_,e1⟩,_,e2⟩:=xf L U hL hU h
   exact⟨rfl,e1,e2⟩
theorem Cy{x y:Iv}(p:Nat)(h:x.all=true\/y.all=true):jl x y p=ig:=by
 unfold jl;rw[aS (by rcases h with h|h<;>rw[h]<;>simp)]
theorem yA{x y:Iv}(hx:x.ic)(hy:y.ic){p:Nat}(hp:1<=p)(ia:p<=4096){a b:Rat}(ha:x.jU a)(hb:y.jU b):(jl x y p).jU (a+b):=by
 cases xa:x.all
 .cases ya:y.all
  .exact (Ei hx hy xa ya hp ia).jU _ ⟨a,b,ha,hb,rfl⟩
  .rw [Cy p (.inr ya)];exact .inl rfl
 .rw [Cy p (.inl xa)];exact .inl rfl
theorem KD{x y x' y':Iv}(hx:x.ic)(hy:y.ic)(oX:x'.ic)(qw:y'.ic){p:Nat}(hp:1<=p)(ia:p<=4096)(h:Sub x x')(k:Sub y y'):Sub (jl x y p) (jl x' y' p):=by
 cases xa:x'.all
 .cases ya:y'.all
  .exact (Ei hx hy (h.qN xa).1 (k.qN ya).1 hp ia).sub (Ei oX qw xa ya hp ia) λr ⟨a,b,ha,hb,e⟩=>⟨a,b,h.jU ha,k.jU hb,e⟩
  .rw [Cy p (.inr ya)];exact .inl rfl
 .rw [Cy p (.inl xa)];exact .inl rfl
theorem VT{x x':Iv}(h:Sub x x'):Sub (pV x) (pV x'):=by
 unfold pV;cases xa:x'.all
 .obtain ⟨h1,h2,h3⟩:=h.qN xa
  rw[h1];refine .inr ⟨rfl,?_,?_⟩
  .show (iF x'.hi).q<=(iF x.hi).q
   rw[lX,lX];grind
  .show (iF x.lo).q<=(iF x'.lo).q
   rw[lX,lX];grind
 .exact .inl rfl
theorem alx{x y x' y':Iv}(hx:x.ic)(hy:y.ic)(oX:x'.ic)(qw:y'.ic){p:Nat}(hp:1<=p)(ia:p<=4096)(h:Sub x x')(k:Sub y y'):Sub (Cm x y p) (Cm x' y' p):=
 KD hx (B2 hy) oX (B2 qw) hp ia h (VT k)
theorem Su{p:Nat}{D:Dy->Dy->Bool->Dy}{E:Dy->Dy->Bool->Int}{f:Rat->Rat->Rat}{x y:Iv}{S:Rat->Prop}
 (hD:∀ a b,(a=x.lo\/a=x.hi)->(b=y.lo\/b=y.hi)->Dn p (f a.q b.q) (D a b false) (E a b false)/\Up p (f a.q b.q) (D a b true) (E a b true)/\S (f a.q b.q))
 (hS:∀ r,S r->(f x.lo.q y.lo.q<=r\/f x.lo.q y.hi.q<=r\/f x.hi.q y.lo.q<=r\/f x.hi.q y.hi.q<=r)/\(r<=f x.lo.q y.lo.q\/r<=f x.lo.q y.hi.q\/r<=f x.hi.q y.lo.q\/r<=f x.hi.q y.hi.q)):
 zZ p S (mq D E x y):=by
 obtain⟨a1,a2,a3⟩:=hD x.lo y.lo (.inl rfl) (.inl rfl);obtain⟨b1,b2,b3⟩:=hD x.lo y.hi (.inl rfl) (.inr rfl);obtain⟨c1,c2,c3⟩:=hD x.hi y.lo (.inr rfl) (.inl rfl);obtain⟨d1,d2,d3⟩:=hD x.hi y.hi (.inr rfl) (.inr rfl);have xf:∀ L U,G p L->G p U->(∀ r,S r->L<=r/\r<=U) ->
  ((E x.lo y.lo false=0/\L<=(D x.lo y.lo false).q)/\E x.lo y.lo true=0/\(D x.lo y.lo true).q<=U)/\((E x.lo y.hi false=0/\L<=(D x.lo y.hi false).q)/\E x.lo y.hi true=0/\(D x.lo y.hi true).q<=U) /\
  ((E x.hi y.lo false=0/\L<=(D x.hi y.lo false).q)/\E x.hi y.lo true=0/\(D x.hi y.lo true).q<=U)/\((E x.hi y.hi false=0/\L<=(D x.hi y.hi false).q)/\E x.hi y.hi true=0/\(D x.hi y.hi true).q<=U):=λL U hL hU h=>
  ⟨⟨a1.2 L hL (h _ a3).1,a2.2 U hU (h _ a3).2⟩,⟨b1.2 L hL (h _ b3).1,b2.2 U hU (h _ b3).2⟩,⟨c1.2 L hL (h _ c3).1,c2.2 U hU (h _ c3).2⟩,⟨d1.2 L hL (h _ d3).1,d2.2 U hU (h _ d3).2⟩⟩
 unfold mq;split
 .rename_i he
  obtain⟨⟨e1,e2⟩,⟨e3,e4⟩,⟨e5,e6⟩,⟨e7,e8⟩⟩:=he;obtain⟨ga,la⟩:=a1.1 e1;obtain⟨gA,lA⟩:=a2.1 e2;obtain⟨gb,lb⟩:=b1.1 e3;obtain⟨gB,lB⟩:=b2.1 e4;obtain⟨gc,lc⟩:=c1.1 e5;obtain⟨gC,lC⟩:=c2.1 e6;obtain⟨gd,ld⟩:=d1.1 e7;obtain⟨gD,lD⟩:=d2.1 e8;obtain⟨m1,m2,m3⟩:=B9 (D x.lo y.lo false) (D x.lo y.hi false);obtain⟨m4,m5,m6⟩:=B9 (iU (D x.lo y.lo false) (D x.lo y.hi false)) (D x.hi y.lo false);obtain⟨m7,m8,m9⟩:=B9 (iU (iU (D x.lo y.lo false) (D x.lo y.hi false)) (D x.hi y.lo false)) (D x.hi y.hi false);obtain⟨n1,n2,n3⟩:=F7 (D x.lo y.lo true) (D x.lo y.hi true);obtain⟨n4,n5,n6⟩:=F7 (iR (D x.lo y.lo true) (D x.lo y.hi true)) (D x.hi y.lo true);obtain⟨n7,n8,n9⟩:=F7 (iR (iR (D x.lo y.lo true) (D x.lo y.hi true)) (D x.hi y.lo true)) (D x.hi y.hi true);generalize (iU (D x.lo y.lo false) (D x.lo y.hi false))=u1 at *
  generalize (iU u1 (D x.hi y.lo false))=u2 at *
  generalize (iU u2 (D x.hi y.hi false))=u3 at *
  generalize (iR (D x.lo y.lo true) (D x.lo y.hi true))=v1 at *
  generalize (iR v1 (D x.hi y.lo true))=v2 at *
  generalize (iR v2 (D x.hi y.hi true))=v3 at *
  refine⟨λr hr=>.inr ?_,λ_=>⟨?_,?_⟩,λL U hL hU h=>⟨rfl,?_,?_⟩⟩
  .obtain ⟨h1,h2⟩:=hS r hr
   constructor
   .show u3.q<=r
    rcases h1 with h1|h1|h1|h1<;>grind
   .show r<=v3.q
    rcases h2 with h1|h1|h1|h1<;>grind
  .show G p u3.q
   rcases m9 with h|h
   .rw [h];rcases m6 with h|h
    .rw [h];rcases m3 with h|h<;>rw[h]<;>assumption
    .rw [h];assumption
   .rw [h];assumption
  .show G p v3.q
   rcases n9 with h|h
   .rw [h];rcases n6 with h|h
    .rw [h];rcases n3 with h|h<;>rw[h]<;>assumption
    .rw [h];assumption
   .rw [h];assumption
  .obtain ⟨⟨⟨_,k1⟩,_,k2⟩,⟨⟨_,k3⟩,_,k4⟩,⟨⟨_,k5⟩,_,k6⟩,⟨⟨_,k7⟩,_,k8⟩⟩:=xf L U hL hU h
   show L<=u3.q;rcases m9 with h|h
   .rw [h];rcases m6 with h|h
    .rw [h];rcases m3 with h|h<;>rw[h]<;>assumption
    .rw [h];assumption
   .rw [h];assumption
  .obtain ⟨⟨⟨_,k1⟩,_,k2⟩,⟨⟨_,k3⟩,_,k4⟩,⟨⟨_,k5⟩,_,k6⟩,⟨⟨_,k7⟩,_,k8⟩⟩:=xf L U hL hU h
   show v3.q<=U;rcases n9 with h|h
   .rw [h];rcases n6 with h|h
    .rw [h];rcases n3 with h|h<;>rw[h]<;>assumption
    .rw [h];assumption
   .rw [h];assumption
 .rename_i he
  refine⟨λ_ _=>.inl rfl,λh=>absurd h ag,λL U hL hU h=>?_⟩;obtain⟨⟨⟨k1,_⟩,k2,_⟩,⟨⟨k3,_⟩,k4,_⟩,⟨⟨k5,_⟩,k6,_⟩,⟨⟨k7,_⟩,k8,_⟩⟩:=xf L U hL hU h;exact absurd ⟨⟨k1,k2⟩,⟨k3,k4⟩,⟨k5,k6⟩,k7,k8⟩ he
theorem Rd{a b c d x y:Rat}(h1:a<=x)(h2:x<=b)(h3:c<=y)(h4:y<=d):
 (a*c<=x*y\/a*d<=x*y\/b*c<=x*y\/b*d<=x*y)/\(x*y<=a*c\/x*y<=a*d\/x*y<=b*c\/x*y<=b*d):=by
 have mono:∀ {u v w:Rat},u<=v->0<=w->u*w<=v*w:=λh k=>b9 h k
 have anti:∀ {u v w:Rat},u<=v->w<=0->v*w<=u*w:=by
  intro u v w h k;have:=mono h (show 0 <= -w by grind)
  grind
 have side:∀ t:Rat,(t*c<=t*y\/t*d<=t*y)/\(t*y<=t*c\/t*y<=t*d):=by
  intro t;rw[fu t c,fu t d,fu t y];rcases Rat.le_total (a:=0) (b:=t)with h|h
  .exact ⟨.inl (mono h3 h),.inr (mono h4 h)⟩
  .exact ⟨.inr (anti h4 h),.inl (anti h3 h)⟩
 have sa:=side a;have sb:=side b;rcases Rat.le_total (a:=0) (b:=y)with h|h
 .have m1:=mono h1 h
  have m2:=mono h2 h;clear mono anti side;constructor
  .rcases sa.1 with k|k<;>grind
  .rcases sb.2 with k|k<;>grind
 .have m1:=anti h1 h
  have m2:=anti h2 h;clear mono anti side;constructor
  .rcases sb.1 with k|k<;>grind
  .rcases sa.2 with k|k<;>grind
theorem Iv.jU.j9{x:Iv}{r:Rat}(h:x.jU r)(k:x.all=false):x.lo.q<=r/\r<=x.hi.q:=by
 rcases h with h|h
 .rw [k]at h;cases h
 .exact h
theorem tn(a b:Dy):(kO a b).kN:=qV _ _ _
theorem FJ{x y:Iv}(hx:x.ic)(hy:y.ic)(xa:x.all=false)(ya:y.all=false){p:Nat}(hp:1<=p)(ia:p<=4096):
 zZ p (λr=>∃ a b,x.jU a/\y.jU b/\r=a*b) (iO x y p):=by
 unfold iO;rw[xa,ya];simp only[gz,bq,a7];refine Su (f:=λa b=>a*b) (λa b ha hb=>⟨?_,?_,a.q,b.q,?_,?_,rfl⟩) (λr ⟨a,b,ha,hb,e⟩=>?_)
 .have:=tV (tn a b) hp ia;rwa[vS]at this
 .have:=uM (tn a b) hp ia;rwa[vS]at this
 .rcases ha with rfl|rfl;exact hx.xG;exact hx.Bv
 .rcases hb with rfl|rfl;exact hy.xG;exact hy.Bv
 .obtain ⟨h1,h2⟩:=ha.j9 xa
  obtain⟨h3,h4⟩:=hb.j9 ya;rw[e];exact Rd h1 h2 h3 h4
theorem DE{x y:Iv}(p:Nat)(h:x.all=true\/y.all=true):iO x y p=ig:=by
 unfold iO;rw[aS (by rcases h with h|h<;>rw[h]<;>simp)]
theorem Jo{x y:Iv}(hx:x.ic)(hy:y.ic){p:Nat}(hp:1<=p)(ia:p<=4096){a b:Rat}(ha:x.jU a)(hb:y.jU b):(iO x y p).jU (a*b):=by
 cases xa:x.all
 .cases ya:y.all
  .exact (FJ hx hy xa ya hp ia).jU _ ⟨a,b,ha,hb,rfl⟩
  .rw [DE p (.inr ya)];exact .inl rfl
 .rw [DE p (.inl xa)];exact .inl rfl
theorem VA{x y x' y':Iv}(hx:x.ic)(hy:y.ic)(oX:x'.ic)(qw:y'.ic){p:Nat}(hp:1<=p)(ia:p<=4096)(h:Sub x x')(k:Sub y y'):Sub (iO x y p) (iO x' y' p):=by
 cases xa:x'.all
 .cases ya:y'.all
  .exact (FJ hx hy (h.qN xa).1 (k.qN ya).1 hp ia).sub (FJ oX qw xa ya hp ia) λr ⟨a,b,ha,hb,e⟩=>⟨a,b,h.jU ha,k.jU hb,e⟩
  .rw [DE p (.inr ya)];exact .inl rfl
 .rw [DE p (.inl xa)];exact .inl rfl
theorem Na{b c:Rat}(h0:0<c)(h:c<=b):b⁻¹<=c⁻¹:=by
 have hb:0<b:= aq ;apply eB (c:=b*c) _ (dP hb h0);have e1:b⁻¹*(b*c)=c:=by rw[<-en,gJ _ aq,eC]
 have e2:c⁻¹*(b*c)=b:=by rw[fu b c,<-en,gJ _ aq,eC]
 rw[e1,e2];exact h
theorem VU(b:Rat):(-b)⁻¹ = -b⁻¹:=by
 by_cases h:b=0
 .rw [h];simp
 .have h1:(-b)⁻¹*(-b)=1:=gJ _ aq 
  have h2:b⁻¹*b=1:=gJ _ h;have h3:(-b)⁻¹*(-b)*b⁻¹=b⁻¹:=by rw[h1,eC]
  grind
theorem UI{b c:Rat}(h0:b<0)(h:c<=b):b⁻¹<=c⁻¹:=by
 have:=Na (b:=-c) (c:=-b) aq aq;rw[VU,VU]at this
 grind
theorem OW{y:Iv}(_hy:y.ic)(h:lK y≠0):y.all=false/\(0<y.lo.q\/y.hi.q<0):=by
 unfold lK at h;cases ya:y.all
 .rw [ya]at h
  simp only[bq,a7]at h;refine⟨rfl,?_⟩;split at h
  .rename_i h1;exact .inl ((oD _).1.1 h1)
  .split at h
   .rename_i h1;exact .inr ((oD _).2.1 h1)
   .exact absurd rfl h
 .rw [ya]at h;simp at h
theorem J3{y:Iv}(ya:y.all=false)(h:0<y.lo.q\/y.hi.q<0):lK y≠0:=by
 unfold lK;rw[ya];simp only[bq,a7];rcases h with h|h
 .rw [aS ((oD _).1.2 h)];decide
 .split
  .decide
  .rw [aS ((oD _).2.2 h)];decide
theorem ag8{d:Dy}(h:d.q≠0):d.m≠0:=by
 intro h0;apply h;rw[qB,h0];simp
theorem CP{x y:Iv}(hx:x.ic)(hy:y.ic)(xa:x.all=false)(hs:lK y≠0){p:Nat}(hp:1<=p)(ia:p<=4096):
 zZ p (λr=>∃ a b,x.jU a/\y.jU b/\r=a/b) (jT x y p):=by
 obtain⟨ya,h0⟩:=OW hy hs;have hle:=hy.q;unfold jT;rw[xa,ya,aU hs];simp only[gz,bq,a7];refine Su (f:=λa b=>a/b) (λa b ha hb=>?_) (λr ⟨a,b,ha,hb,e⟩=>?_)
 .have b0:b.m≠0:=ag8 (by rcases hb with rfl|rfl<;>grind)
  obtain⟨h1,h2⟩:=Le (a:=a) b0 hp ia;refine⟨h1,h2,a.q,b.q,?_,?_,rfl⟩
  .rcases ha with rfl|rfl;exact hx.xG;exact hx.Bv
  .rcases hb with rfl|rfl;exact hy.xG;exact hy.Bv
 .obtain ⟨h1,h2⟩:=ha.j9 xa
  obtain⟨h3,h4⟩:=hb.j9 ya;have i1:y.hi.q⁻¹<=b⁻¹:=by
   rcases h0 with h0|h0
   .exact Na aq h4
   .exact UI aq h4
  have i2:b⁻¹<=y.lo.q⁻¹:=by
   rcases h0 with h0|h0
   .exact Na h0 h3
   .exact UI aq h3
  obtain⟨k1,k2⟩:=Rd h1 h2 i1 i2;rw[e];simp only[cC];exact⟨aq,aq⟩
theorem Bo{x y:Iv}(p:Nat)(h:x.all=true\/lK y=0):jT x y p=ig:=by
 unfold jT;rw[aS (by rcases h with h|h<;>rw[h]<;>simp)]
theorem Ht{x y:Iv}(hx:x.ic)(hy:y.ic){p:Nat}(hp:1<=p)(ia:p<=4096){a b:Rat}(ha:x.jU a)(hb:y.jU b):(jT x y p).jU (a/b):=by
 cases xa:x.all
 .by_cases hs:lK y=0
  .rw [Bo p (.inr hs)];exact .inl rfl
  .exact (CP hx hy xa hs hp ia).jU _ ⟨a,b,ha,hb,rfl⟩
 .rw [Bo p (.inl xa)];exact .inl rfl
theorem acr{x y x' y':Iv}(hx:x.ic)(hy:y.ic)(oX:x'.ic)(qw:y'.ic){p:Nat}(hp:1<=p)(ia:p<=4096)(h:Sub x x')(k:Sub y y'):Sub (jT x y p) (jT x' y' p):=by
 cases xa:x'.all
 .by_cases hs:lK y'=0
  .rw [Bo p (.inr hs)];exact .inl rfl
  .obtain ⟨ya,h0⟩:=OW qw hs
   obtain⟨y1,y2,y3⟩:=k.qN ya;have rW:lK y≠0:=J3 y1 aq;exact(CP hx hy (h.qN xa).1 rW hp ia).sub (CP oX qw xa hs hp ia) λr ⟨a,b,ha,hb,e⟩=>⟨a,b,h.jU ha,k.jU hb,e⟩
 .rw [Bo p (.inl xa)];exact .inl rfl
theorem BX{x:Iv}(h:x.lo.q<=x.hi.q):x.hi.q<=(mD x).q /\ -x.lo.q<=(mD x).q/\((mD x).q=x.hi.q\/(mD x).q = -x.lo.q):=by
 obtain⟨a1,a2,a3,a4⟩:=zC x.lo;obtain⟨b1,b2,b3,b4⟩:=zC x.hi;obtain⟨c1,c2,c3⟩:=F7 (lh x.lo) (lh x.hi);unfold mD;generalize (iR (lh x.lo) (lh x.hi)).q=M at *
 refine⟨aq,aq,?_⟩;rcases c3 with c3|c3
 .rcases a4 with a4|a4
  .grind
  .grind
 .rcases b4 with b4|b4
  .grind
  .grind
theorem ahc{x x':Iv}(hx:x.ic)(oX:x'.ic)(h:Sub x x')(xa:x'.all=false):(mD x).q<=(mD x').q:=by
 obtain⟨h1,h2,h3⟩:=h.qN xa;obtain⟨a1,a2,a3⟩:=BX hx.q;obtain⟨b1,b2,b3⟩:=BX oX.q
 grind
theorem Nx{x:Iv}(hx:x.ic)(xa:x.all=false):0<=(nu x).q/\(x.lo.q<=0->0<=x.hi.q->(nu x).q=0)/\(0<x.lo.q->(nu x).q=x.lo.q)/\(x.hi.q<0->(nu x).q = -x.hi.q):=by
 have hle:=hx.q;obtain⟨a1,a2,a3,a4⟩:=zC x.lo;obtain⟨b1,b2,b3,b4⟩:=zC x.hi;obtain⟨c1,c2,c3⟩:=B9 (lh x.lo) (lh x.hi);by_cases hs:lK x=0
 .have hn:¬(0<x.lo.q\/x.hi.q<0):=λh=>J3 xa h hs
  have:nu x=jA:=by unfold nu;rw[aS hs]
  rw[this,rk];refine⟨bV,λ_ _=>rfl,λh=>absurd (.inl h) hn,λh=>absurd (.inr h) hn⟩
 .obtain ⟨_,h0⟩:=OW hx hs
  have:nu x=iU (lh x.lo) (lh x.hi):=by unfold nu;rw[aR hs]
  rw[this];generalize (iU (lh x.lo) (lh x.hi)).q=M at *
  generalize (lh x.lo).q=u at *
  generalize (lh x.hi).q=v at *
  refine⟨aq,aq,aq,aq⟩
theorem ZH{x x':Iv}(hx:x.ic)(oX:x'.ic)(h:Sub x x'):Sub (iZ x) (iZ x'):=by
 cases xa:x'.all
 .obtain ⟨h1,h2,h3⟩:=h.qN xa
  unfold iZ;rw[h1,xa];refine .inr ⟨rfl,?_,ahc hx oX h xa⟩;show(nu x').q<=(nu x).q;obtain⟨a1,a2,a3,a4⟩:=Nx hx h1;obtain⟨b1,b2,b3,b4⟩:=Nx oX xa;have:=hx.q;by_cases c1:0<x'.lo.q
  .rw [b3 c1,a3 aq];exact h2
  .by_cases c2:x'.hi.q<0
   .rw [b4 c2,a4 aq];grind
   .rw [b2 aq aq];exact a1
 .refine .inl ?_
  unfold iZ;rw[aS xa];rfl
theorem GW{x:Iv}(hx:x.ic){r s:Rat}(h:x.jU r)(hs:s=r/\0<=r\/s = -r/\r<=0):(iZ x).jU s:=by
 unfold iZ;cases xa:x.all
 .obtain ⟨h1,h2⟩:=h.j9 xa
  obtain⟨a1,a2,a3⟩:=BX hx.q;obtain⟨b1,b2,b3,b4⟩:=Nx hx xa;refine .inr ⟨?_,?_⟩
  .show (nu x).q<=s
   by_cases c1:0<x.lo.q
   .rw [b3 c1];grind
   .by_cases c2:x.hi.q<0
    .rw [b4 c2];grind
    .rw [b2 aq aq];grind
  .show s<=(mD x).q
   grind
 .exact .inl rfl
theorem N8(d:Dy):(mo d).jU d.q:=.inr ⟨bV,bV⟩
theorem zw(n:Int):(jF n).jU (n:Rat):=by have:=N8 (jf n);rwa[xX]at this
def iy(d:Dy)(p:Nat)(up:Bool):Nat->Dy×Int
 | 0=>(jh d p up,jx d p up)
 |k+1=>if(iy d p up k).2≠0 then iy d p up k else(jh (kO (iy d p up k).1 d) p up,jx (kO (iy d p up k).1 d) p up)
def kv(d:Dy)(n p:Nat)(up:Bool):Dy×Int:=if d.iK<0 then(iF (iy (iF d) p (!up) (n-1)).1,(iy (iF d) p (!up) (n-1)).2)else iy d p up (n-1)
def oi(x:Iv)(n:Nat):Iv:=if n%2=0 then iZ x else x
def lP(x:Iv)(n p:Nat):Iv:=
 if x.all then ig else if n=0 then mo ⟨false,1,0⟩
 else kI (kv (oi x n).lo n p false).1 (kv (oi x n).lo n p false).2 (kv (oi x n).hi n p true).1 (kv (oi x n).hi n p true).2
def nK(r:Rat):Nat->Rat
 | 0=>1
 |n+1=>nK r n*r
theorem yd{r:Rat}(h:0<=r):∀ n,0<=nK r n
 | 0=>by show(0:Rat)<=1;decide
 |n+1=>bM (yd h n) h
theorem Gp{a b:Rat}(h0:0<=a)(h:a<=b):∀ n,nK a n<=nK b n
 | 0=>bV
 |n+1=>by
  have ih:=Gp h0 h n;have m1:=b9 ih h0;have m2:=cB h (yd (bA h0 h) n);exact bA m1 m2
theorem Ch(r:Rat):∀ n,nK (-r) n=if n%2=0 then nK r n else -nK r n
 | 0=>rfl
 |n+1=>by
  have ih:=Ch r n;simp only[nK,ih];have:n%2=0\/n%2=1:= ae ;rcases this with h|h
  .have h':(n+1)%2=1:= ae 
   rw[h,h'];simp;grind
  .have h':(n+1)%2=0:= ae 
   rw[h,h'];simp;grind
theorem OH{a b:Rat}{n:Nat}(hn:n%2=1)(h:a<=b):nK a n<=nK b n:=by
 by_cases h0:0<=a
 .exact Gp h0 h n
 .have ea:=Ch (-a) n
  rw[fp,hn]at ea;simp only[gK,a7]at ea;by_cases hb:0<=b
  .have h1:=yd (show 0 <= -a by grind) n
   have h2:=yd hb n
   grind
  .have eb:=Ch (-b) n
   rw[fp,hn]at eb;simp only[gK,a7]at eb;have:=Gp (show 0 <= -b by grind) (show -b <= -a by grind) n
   grind
theorem N9{d:Dy}(hd:d.kN)(h0:0<=d.q){p:Nat}(hp:1<=p)(ia:p<=4096):∀ k,(iy d p false k).2=0->0<=(iy d p false k).1.q/\(iy d p false k).1.q<=nK d.q (k+1)
 | 0,he=>by
  have A:=tV hd hp ia;refine⟨(A.2 0 (.inl (wb p)) h0).2,?_⟩;have:=(A.1 he).2;simp only[nK,eC];exact this
 |k+1,he=>by
  by_cases hk:(iy d p false k).2≠0
  .exfalso;simp only[iy,aS hk]at he;exact hk he
  .have rh:(iy d p false k).2=0:= ae 
   obtain⟨i1,i2⟩:=N9 hd h0 hp ia k rh;have A:=tV (tn (iy d p false k).1 d) hp ia;rw[vS]at A;simp only[iy,aR hk]at he ⊢;refine⟨(A.2 0 (.inl (wb p)) (bM i1 h0)).2,?_⟩;have h1:=(A.1 he).2;have h2:=b9 i2 h0;exact bA h1 h2
theorem DN{d:Dy}(hd:d.kN)(h0:0<=d.q){p:Nat}(hp:1<=p)(ia:p<=4096):∀ k,(iy d p true k).2=0->nK d.q (k+1)<=(iy d p true k).1.q
 | 0,he=>by
  have A:=uM hd hp ia;have:=(A.1 he).2;simp only[nK,eC];exact this
 |k+1,he=>by
  by_cases hk:(iy d p true k).2≠0
  .exfalso;simp only[iy,aS hk]at he;exact hk he
  .have rh:(iy d p true k).2=0:= ae 
   have i2:=DN hd h0 hp ia k rh;have A:=uM (tn (iy d p true k).1 d) hp ia;rw[vS]at A;simp only[iy,aR hk]at he ⊢;have h1:=(A.1 he).2;have h2:=b9 i2 h0;exact bA h2 h1
theorem ac7{d:Dy}(hd:d.kN){n p:Nat}(hn:1<=n)(hs:0<=d.q\/n%2=1)(hp:1<=p)(ia:p<=4096)(he:(kv d n p false).2=0):(kv d n p false).1.q<=nK d.q n:=by
 unfold kv at he ⊢;by_cases h:d.iK<0
 .rw [aS h]at he ⊢
  have hq:=(oD d).2.1 h;have AA:=hs.resolve_left aq;have:=DN (uI hd) aD hp ia (n-1) he;rw[show n-1+1=n by omega,lX,Ch,AA]at this;simp only[gK,a7]at this;show(iF _).q<=_;rw[lX];simp only[dz]
  grind
 .rw [aR h]at he ⊢
  have h0:0<=d.q:=by
   apply dr.1;intro iE;exact h ((oD d).2.2 iE)
  have:=(N9 hd h0 hp ia (n-1) he).2;rwa[show n-1+1=n by omega]at this
theorem ac8{d:Dy}(hd:d.kN){n p:Nat}(hn:1<=n)(hs:0<=d.q\/n%2=1)(hp:1<=p)(ia:p<=4096)(he:(kv d n p true).2=0):nK d.q n<=(kv d n p true).1.q:=by
 unfold kv at he ⊢;by_cases h:d.iK<0
 .rw [aS h]at he ⊢
  have hq:=(oD d).2.1 h;have AA:=hs.resolve_left aq;have:=(N9 (uI hd) aD hp ia (n-1) he).2;rw[show n-1+1=n by omega,lX,Ch,AA]at this;simp only[gK,a7]at this;show _<=(iF _).q;rw[lX];simp only[ef]
  grind
 .rw [aR h]at he ⊢
  have h0:0<=d.q:=by
   apply dr.1;intro iE;exact h ((oD d).2.2 iE)
  have:=DN hd h0 hp ia (n-1) he;rwa[show n-1+1=n by omega]at this
theorem aix{x:Iv}(hx:x.ic){n p:Nat}(hp:1<=p)(ia:p<=4096){r:Rat}(h:x.jU r):(lP x n p).jU (nK r n):=by
 unfold lP;cases xa:x.all
 .simp only[bq,a7]
  by_cases hn:n=0
  .rw [aS hn]
   subst hn;have e:(⟨false,1,0⟩:Dy).q=1:= ar ;refine .inr ⟨?_,?_⟩
   .show (⟨false,1,0⟩:Dy).q<=1
    rw[e];exact bV
   .show 1<=(⟨false,1,0⟩:Dy).q
    rw[e];exact bV
  .rw [aR hn]
   obtain⟨s,hs,uy,hsn⟩:∃ s,(oi x n).jU s/\(n%2=0->0<=(oi x n).lo.q/\0<=s)/\nK r n=nK s n:=by
    unfold oi;by_cases pL:n%2=0
    .rw [aS pL]
     have hl:0<=(iZ x).lo.q:=by
      unfold iZ;rw[xa];show 0<=(nu x).q;unfold nu;split
      .rw [rk];exact bV
      .obtain ⟨_,_,m⟩:=B9 (lh x.lo) (lh x.hi)
       rcases m with m|m<;>rw[m]
       .exact (zC x.lo).1
       .exact (zC x.hi).1
     by_cases hr:0<=r
     .exact ⟨r,GW hx h (.inl ⟨rfl,hr⟩),λ_=>⟨hl,hr⟩,rfl⟩
     .refine ⟨-r,GW hx h (.inr ⟨rfl,aq⟩),λ_=>⟨hl,aq⟩,?_⟩
      rw[Ch,aS pL]
    .rw [aR pL]
     exact⟨r,h,λq=>absurd q pL,rfl⟩
   have hyv:(oi x n).ic:=by unfold oi;split;exact Cw hx;exact hx
   have ya:(oi x n).all=false:=by
    unfold oi;split
    .unfold iZ;rw[xa];rfl
    .exact xa
   rw[hsn];generalize oi x n=y at *
   obtain⟨s1,s2⟩:=hs.j9 ya;obtain⟨c1,c2⟩:=hyv.wB;unfold kI;split
   .exact .inl rfl
   .rename_i he
    have AA:¬n%2=0->n%2=1:=λq=> ae 
    refine .inr ⟨?_,?_⟩
    .refine bA (ac7 c1 ae ?_ hp ia ae) ?_
     .by_cases pL:n%2=0
      .exact .inl (uy pL).1
      .exact .inr (AA pL)
     .by_cases pL:n%2=0
      .exact Gp (uy pL).1 s1 n
      .exact OH (AA pL) s1
    .refine bA ?_ (ac8 c2 ae ?_ hp ia ae)
     .by_cases pL:n%2=0
      .exact Gp (uy pL).2 s2 n
      .exact OH (AA pL) s2
     .by_cases pL:n%2=0
      .exact .inl (bA (uy pL).2 s2)
      .exact .inr (AA pL)
 .rw [aS rfl];exact .inl rfl
end Go.Proofs.YtkjkcjhacddojaaGreatDoor.Fp
namespace Go.Proofs.YtkjkcjhacddojaaGreatDoor
open Go.RowKit Fp Pu
structure mO where
 kind:Nat
 a:Nat
 b:Nat
 n:Nat
 cn:Int
 cd:Int
structure oZ where
 iq:Nat
 gX:List mO
 ik:List Nat
structure kV where
 tape:oZ
 iA:Nat
 params:List Iv
def iT:mO:=⟨0,0,0,0,0,0⟩
def JA(o:mO):List E:=[iP (o.kind:Int),iP (o.a:Int),iP (o.b:Int),iP (o.n:Int),iP o.cn,iP o.cd]
def vP(o:mO):E:=.agg (JA o)
def nJ(l:List mO):E:=.sl true l.length 6 λi j=>(JA (l.getD i iT)).getD j .any
def nI(l:List Nat):E:=.sl true l.length 1 λi _=>iP (l.getD i 0:Int)
def al3(t:oZ):List E:=[iP (t.iq:Int),nJ t.gX,nI t.ik]
def yh(t:oZ):E:=.agg (al3 t)
def alI(s:kV):List E:=[iP (s.tape.iq:Int),nJ s.tape.gX,nI s.tape.ik,iP (s.iA:Int),ij s.params]
def jj(s:kV):E:=.agg (alI s)
def lQ(n d:Int):Bool:=decide (1<=d)&&(decide (d<=1073741824)&&(decide (-1073741824<=n)&&(decide (n<=1073741824)&&decide (Nat.gcd n.natAbs d.natAbs=1))))
theorem Gf{n d:Int}(h:lQ n d=true):1<=d/\d<=1073741824 /\ -1073741824<=n/\n<=1073741824:=by
 unfold lQ at h;simp only[bu,bU]at h;exact⟨h.1,h.2.1,h.2.2.1,h.2.2.2.1⟩
structure nB(o:mO)(m:Nat):Prop where
 k3:o.kind=1\/3<=o.kind
 Dv:o.kind<=13
 a:if o.kind=1 then o.a=0 else o.a<m
 b:if 3<=o.kind/\o.kind<=6 then o.b<m else o.b=0
 n:if o.kind=8 then o.n<=16 else o.n=0
 c:if o.kind=1 then lQ o.cn o.cd=true else o.cn=0/\o.cd=0
structure Ab(t:oZ):Prop where
 iq:t.iq<=8
 gX:t.gX.length<=200
 ik:t.ik.length<=200
 op:∀ i,i<t.gX.length->nB (t.gX.getD i iT) (t.iq+i)
 out:∀ i,i<t.ik.length->t.ik.getD i 0<t.iq+t.gX.length
def oQ(l:List Iv):Prop:=∀ i,i<l.length->(l.getD i ig).ic/\(l.getD i ig).all=false
structure mI(s:kV):Prop where
 tape:Ab s.tape
 s1:1<=s.iA
 s4:s.iA<=4
 ik:s.tape.ik.length=s.iA
 iq:s.tape.iq=s.iA+s.params.length
 p4:s.params.length<=4
 params:oQ s.params
structure ke(n:Nat)(b:List Iv):Prop where
 len:b.length=n
 ok:oQ b
def mV(l:List Iv):Bool:=(List.range l.length).any λi=>(l.getD i ig).all
def jW(h:Dy):Iv:=⟨jA,h,false⟩
def Ja(x f:List Iv)(h:Dy)(p i:Nat):Iv:=jl (x.getD i ig) (iO (jW h) (f.getD i ig) p) p
def sY(x f:List Iv)(h:Dy)(p:Nat):List Iv:=(List.range x.length).map (Ja x f h p)
theorem Cl{h:Dy}(hv:h.ic)(h0:0<=h.q):(jW h).ic:=.inr ⟨rfl,rI,hv,by show jo jA h<=0;rw[po,rk];exact h0⟩
theorem xj(d:Dy){p:Nat}(hp:1<=p)(ia:p<=4096)(up:Bool):(jh d p up).ic:=mu _ _ _ _ _ _ hp ia
theorem uK(d:Dy){p:Nat}(hp:1<=p)(ia:p<=4096)(up:Bool):∀ k,(iy d p up k).1.ic
 | 0=>xj _ hp ia _
 |k+1=>by
  unfold iy;split
  .exact uK d hp ia up k
  .exact xj _ hp ia _
theorem RZ(d:Dy)(n:Nat){p:Nat}(hp:1<=p)(ia:p<=4096)(up:Bool):(kv d n p up).1.ic:=by
 unfold kv;split
 .exact qA (uK _ hp ia _ _)
 .exact uK _ hp ia _ _
theorem NR:canon false 1 0=⟨false,1,0⟩:=by
 have h1:(canon false 1 0).neg=false:= ar ;have h2:(canon false 1 0).m=1:= ar ;have h3:(canon false 1 0).e=0:= ar ;generalize canon false 1 0=d at *
 cases d;simp_all
theorem DJ:(⟨false,1,0⟩:Dy).ic:=by
 have h2:mW (canon false 1 0):= ar ;rw[<-NR];exact⟨qV _ _ _,h2⟩
theorem aiz{x:Iv}(hx:x.ic)(n:Nat){p:Nat}(hp:1<=p)(ia:p<=4096):(lP x n p).ic:=by
 have hh:=aix hx (n:=n) hp ia hx.xG;revert hh;unfold lP;split
 .intro _;exact mi
 .split
  .intro _;exact vR DJ
  .unfold kI
   split
   .intro _;exact mi
   .intro hh
    obtain⟨h1,h2⟩:=hh.j9 rfl;exact .inr ⟨rfl,RZ _ _ hp ia _,RZ _ _ hp ia _,(po _ _).2 (bA h1 h2)⟩
def mB(l:List Iv):Prop:=∀ i,(l.getD i ig).ic
theorem mB.push{l:List Iv}(h:mB l){y:Iv}(hy:y.ic):mB (l++[y]):=λi=>by
 rw[aW,fD];split
 .have:=h i;rwa[aW]at this
 .rcases i-l.length with _|j
  .exact hy
  .exact mi
theorem oQ.yl{l:List Iv}(h:oQ l):mB l:=λi=>by
 by_cases hi:i<l.length
 .exact (h i hi).1
 .rw [aW,bT ae];exact mi
theorem mB.append{l r:List Iv}(h:mB l)(k:mB r):mB (l++r):=λi=>by
 rw[aW,fD];split
 .have:=h i;rwa[aW]at this
 .have:=k (i-l.length);rwa[aW]at this
theorem afa{l:List Iv}(h:mV l=false)(v:mB l):oQ l:=λi hi=>⟨v i,by simpa using List.any_eq_false.1 h i (bI.2 hi)⟩
theorem afV{x f:List Iv}{h:Dy}(hx:mB x){p:Nat}(hp:1<=p)(ia:p<=4096)(i:Nat):(Ja x f h p i).ic:=si (hx i) (qj _ _ hp ia) hp ia
theorem tN(x f:List Iv)(h:Dy)(p:Nat):(sY x f h p).length=x.length:=by simp[sY]
theorem xQ{x f:List Iv}{h:Dy}{p i:Nat}(hi:i<x.length):(sY x f h p).getD i ig=Ja x f h p i:=by
 simp[sY,aW,hi]
theorem afX{x f:List Iv}{h:Dy}(hx:mB x){p:Nat}(hp:1<=p)(ia:p<=4096):mB (sY x f h p):=λi=>by
 by_cases hi:i<x.length
 .rw [xQ hi];exact afV hx hp ia i
 .rw [aW,bT (by rw[tN];omega)];exact mi
def ng(a b:List Iv):Bool:=(List.range a.length).all λi=>pg (a.getD i ig) (b.getD i ig)
def vo(x:Iv)(d:Dy):Bool:=decide (mP (iJ x.lo (iF d))=0)&&decide (mP (iJ x.hi d)=0)
def qK(x:Iv)(d:Dy):Iv:=⟨kG (iJ x.lo (iF d)),kG (iJ x.hi d),false⟩
def sT(x:List Iv)(d:Dy):Bool:=(List.range x.length).all λi=>vo (x.getD i ig) d
def re(x:List Iv)(d:Dy):List Iv:=if sT x d then(List.range x.length).map λi=>qK (x.getD i ig) d else[]
def Dm(x y:Iv):Iv:=if x.all||y.all then ig else⟨iU x.lo y.lo,iR x.hi y.hi,false⟩
def tY(x:Iv)(p:Nat):Dy:=jh (iJ x.hi (iF x.lo)) p true
def Bd(x:Iv)(p:Nat):Int:=jx (iJ x.hi (iF x.lo)) p true
theorem afI{x y:Iv}(hx:x.ic)(hy:y.ic):(Dm x y).ic:=by
 unfold Dm;cases xa:x.all
 .cases ya:y.all
  .obtain ⟨x1,x2⟩:x.lo.ic/\x.hi.ic:=hx.j9
   obtain⟨y1,y2⟩:y.lo.ic/\y.hi.ic:=hy.j9;refine .inr ⟨rfl,qi x1 y1,pj x2 y2,?_⟩;rw[po];have hq:=hx.q;obtain⟨a1,a2,_⟩:=B9 x.lo y.lo;obtain⟨b1,b2,_⟩:=F7 x.hi y.hi
   grind
  .exact mi
 .exact mi
theorem aeW{x:Iv}(hx:x.ic){d:Dy}(hd:d.ic)(h0:0<=d.q)(h:vo x d=true):(qK x d).ic:=by
 unfold vo at h;rw[bu,bU,bU]at h;obtain⟨h1,h2⟩:=h;have r1:mW (iJ x.lo (iF d)):=bG λq=>by rw[Hl q]at h1;cases h1
 have r2:mW (iJ x.hi d):=bG λq=>by rw[Hl q]at h2;cases h2
 obtain⟨c1,c2⟩:=hx.wB;unfold qK;refine .inr ⟨rfl,QZ (Bk c1 (qA hd).canon),QZ (Bk c2 hd.canon),?_⟩;show jo (kG _) (kG _)<=0;rw[Bl r1,Bl r2,po,Od,Od,lX];have:=hx.q
 grind
theorem aeU{x:List Iv}{n:Nat}(hx:ke n x){d:Dy}(hd:d.ic)(h0:0<=d.q)(h:sT x d=true):ke n (re x d):=by
 unfold re;rw[aS h];refine⟨by simp[hx.len],λi hi=>?_⟩;have oH:i<x.length:=by simpa using hi
 have e:((List.range x.length).map λi=>qK (x.getD i ig) d).getD i ig=qK (x.getD i ig) d:=by simp[aW,oH]
 rw[e];exact⟨aeW (hx.ok i oH).1 hd h0 (bH.1 h i (bI.2 oH)),rfl⟩
theorem acF(s:Bool)(L:List Nat)(e:Int)(hk:iD L)(hl:L.length<=256)(kT:-1000000<=e)(kA:e<=1000000):gW 255 [bP s,gY L,iP e] (gZ (canon s (val L) e)):=by
 refine⟨call255,λw B vs hK hB hr=>?_⟩;obtain⟨v1,vs,rfl,h1,hr⟩:=hr.mg;obtain⟨v2,vs,rfl,h2,hr⟩:=hr.mg;obtain⟨v3,vs,rfl,h3,hr⟩:=hr.mg;obtain rfl:=hr.qk;obtain rfl:=iH.kP h1;obtain rfl:=iH.kP h3;obtain⟨A,c,rfl,s1⟩:=uO hk h2;exact(Hy s A c L e w s1 ae (by have:=oO L;unfold lZ at this;omega) kT kA hK).mono λe w' h=>rd B w e w' hB h
theorem amv(x y:Nat):E.le (.sl false 2 1 λi j=>[E.v (.int .u32 (x:Int)),.v (.int .u32 (y:Int))].getD (i*1+j) (.v (.bool false))) (gY [x,y]):=.sl λi j hi hj=>by
 obtain rfl:j=0:= ae ;obtain rfl|rfl:i=0\/i=1:= ae 
 .exact ⟨.refl _,rfl⟩
 .exact ⟨.refl _,rfl⟩
theorem BP(n:Nat):jf (n:Int)=canon false n 0:=by
 unfold jf kY;rw[aU ae,dC]
theorem M8(n:Nat)(h:n<4294967296):(jf (n:Int)).ic:=by
 rw[BP];refine⟨qV _ _ _,?_⟩;by_cases h0:n=0
 .subst h0;exact .inl rfl
 .have:=Bj (s:=false) (e:=0) h0
  have hb:ie n<=32:=kR.2 h;refine .inr ⟨ae,ae,?_,ae⟩;obtain⟨h1,h2,h3,h4⟩:=this;have:=mY h3;omega
theorem amW(x y:Nat):val [x,y]=x+4294967296*y:=by simp[val]
def Qn(d:Dy)(n p:Nat)(x:Nat):PS:=⟨41,true,[(14,.e (iP (((x+1):Nat):Int))),(13,.e (iP ((iy d p false x).2))),(12,.box 12 0),(10,.box 10 0),(5,.box 5 0),(1,.e (iP n)),(2,.e (iP p)),(4,.e (.fn 189 []))],[(12,.cells 39 (jr ((iy d p false x).1))),(10,.cells 39 [(bP false),(.v (.slice none 0 0)),(iP 0)]),(5,.cells 39 (jr d))]⟩
def Qo(d:Dy)(n N p:Nat)(x:Nat):PS:=⟨41,true,[(14,.e (iP (((x+1):Nat):Int))),(13,.e (iP ((iy d p false x).2))),(12,.box 12 0),(10,.box 10 0),(5,.box 5 0),(1,.e (iP n)),(2,.e (iP p)),(4,.e (.fn 189 []))],[(12,.cells 39 (jr ((iy d p false x).1))),(10,.cells 39 [(bP false),(.v (.slice none 0 0)),(iP 0)]),(5,.cells 39 (jr d))]⟩
def Qp(d:Dy)(n p:Nat)(x:Nat):PS:=⟨41,true,[(14,.e (iP (((x+1):Nat):Int))),(13,.e (iP ((iy d p true x).2))),(12,.box 12 0),(10,.box 10 0),(5,.box 5 0),(1,.e (iP n)),(2,.e (iP p)),(4,.e (.fn 190 []))],[(12,.cells 39 (jr ((iy d p true x).1))),(10,.cells 39 [(bP false),(.v (.slice none 0 0)),(iP 0)]),(5,.cells 39 (jr d))]⟩
def Qq(d:Dy)(n N p:Nat)(x:Nat):PS:=⟨41,true,[(14,.e (iP (((x+1):Nat):Int))),(13,.e (iP ((iy d p true x).2))),(12,.box 12 0),(10,.box 10 0),(5,.box 5 0),(1,.e (iP n)),(2,.e (iP p)),(4,.e (.fn 190 []))],[(12,.cells 39 (jr ((iy d p true x).1))),(10,.cells 39 [(bP false),(.v (.slice none 0 0)),(iP 0)]),(5,.cells 39 (jr d))]⟩
theorem aaD(a b:Dy)(ha:a.ic)(hb:b.ic):gW 303 [gZ a,gZ b] (.ix [gZ (kG (iJ a b)),iP (mP (iJ a b))]):=FZ call303 (λA c A' c' w h k hT=>RM a b A A' c c' w h k hT ha hb) Gh
theorem El(a b:Dy)(ha:a.ic)(hb:b.ic):gW 256 [gZ a,gZ b] (.ix [gZ (kG (iJ a (iF b))),iP (mP (iJ a (iF b)))]):=FZ call256 (λA c A' c' w h k hT=>acM a b A A' c c' w h k hT ha hb) Gh
theorem Ej(a b:Dy)(ha:a.ic)(hb:b.ic):gW 257 [(gZ a),(gZ b)] (.ix [(gZ (kG (iJ a b))),(iP (mP (iJ a b)))]):=
 tr true call257 func257 (chain [.c (qu _ af:gW 92 [(gZ a)] _),.c (qu _ af:gW 92 [(gZ b)] _),.c (aaD _ _ af af:gW 303 [(gZ a),(gZ b)] _)]<|.nil) ah 
theorem Z3(s:Bool)(m:Nat)(e:Int)(hl:(gV m).length<=256)(kT:-1000000<=e)(kA:e<=1000000):gW 255 [bP s,gY (gV m),iP e] (gZ (canon s m e)):=by
 refine⟨call255,λw B vs hK hB hr=>?_⟩;obtain⟨v1,vs,rfl,h1,hr⟩:=hr.mg;obtain⟨v2,vs,rfl,h2,hr⟩:=hr.mg;obtain⟨v3,vs,rfl,h3,hr⟩:=hr.mg;obtain rfl:=hr.qk;obtain rfl:=iH.kP h1;obtain rfl:=iH.kP h3;obtain⟨A,c,rfl,s1⟩:=uO (kE m) h2;exact(CH s m e A c w s1 hl kT kA hK).mono λe w' h=>rd B w e w' hB h
theorem Z4(d:Dy)(hl:(gV d.m).length<=100000000)(kT:-10000000<=d.e)(kA:d.e<=10000000):gW 254 [gZ d] (.ix [gZ (kG d),iP (mP d)]):=
 xV call254 (λA c w h _=>Hk d A c w h ae ae ae) Gh
theorem aac(k:Int)(h1:-32768<=k)(h2:k<=32768):gW 253 [(iP k)] (bP true):=
 tr true call253 func253 (chain [tT 4 ((-32768)<=k) ae,tT 7 (k<=32768) ae]<|.nil) ah 
theorem KK(d:Dy)(k:Int)(hv:d.ic)(h1:-32768<=k)(h2:k<=32768):gW 179 [(gZ d),(iP k)] (.ix [(gZ (kG (canon d.neg d.m (d.e+k)))),(iP (mP (canon d.neg d.m (d.e+k))))]):=by
 have hl:=hv.gV;have he:=hv.exp;have jb:=QS (kE d.m) hl d.neg (d.e+k);obtain⟨mn,pz⟩:=QQ (kE d.m) hl d.neg (d.e+k) ae ae;rw[jC]at jb mn pz;exact tr true call179 func179 (chain [.c (qu _ af:gW 92 [(gZ d)] _),.c (aac _ ae ae:gW 253 [(iP k)] _),iu (d.e+k) ae,.c (Z3 _ _ _ ae ae ae:gW 255 [(bP d.neg),(gY (gV d.m)),(iP (d.e+k))] _),.c (Z4 _ ae ae ae:gW 254 [(gZ (canon d.neg d.m (d.e+k)))] _)]<|.nil) ah 
theorem KI(n:Nat)(h:n<4294967296):gW 180 [(iP n)] (gZ (jf (n:Int))):=by
 have ok2:iD [n%4294967296,n/4294967296%4294967296]:=iD.cons (bh _ ag) (iD.cons (bh _ ag) iD.nil);exact tr true call180 func180 (chain [.o 5 (.int (pE _ ae):PV.le (.e (.v (.int .u64 (IntKind.u64.wrap (n:Int))))) (.e (.v (.int .u64 (n:Int))))),tF 7 ((n:Int)<0) ae,tF 11 ((n:Int)<0) ae,.o 13 (.int (uS _):PV.le (.e (.v (.int .u32 (IntKind.u32.wrap (n:Int))))) (.e (.v (.int .u32 (((n%4294967296):Nat):Int))))),.a (ae:0<=(32:Int)/\(32:Int)<=((64:Nat):Int)),.o 15 (.int (Cj _):PV.le (.e (.v (.int .u64 ((n:Int)/2^32)))) (.e (.v (.int .u64 (((n/4294967296):Nat):Int))))),.o 16 (.int (uS _):PV.le (.e (.v (.int .u32 (IntKind.u32.wrap (((n/4294967296):Nat):Int))))) (.e (.v (.int .u32 ((((n/4294967296)%4294967296):Nat):Int))))),.o 17 (.e (amv _ _):PV.le (.e (.sl false 2 1 λi_ j_=>[(.v (.int .u32 (((n%4294967296):Nat):Int))),(.v (.int .u32 ((((n/4294967296)%4294967296):Nat):Int)))].getD (i_*1+j_) (.v (.bool false)))) (.e (gY [(n%4294967296),((n/4294967296)%4294967296)]))),.c (acF _ _ _ ok2 aj ag ag:gW 255 [(bP false),(gY [(n%4294967296),((n/4294967296)%4294967296)]),(iP 0)] _)]<|rQ (gZ (canon false (val [(n%4294967296),((n/4294967296)%4294967296)]) 0)) (gZ (jf (n:Int))) (by rw[amW,show n%4294967296+4294967296*(n/4294967296%4294967296)=n by omega,BP])) ah 
theorem age:jf 1=⟨false,1,0⟩:=by rw[show(1:Int)=((1:Nat):Int)from rfl,BP];exact NR
theorem KH:gW 180 [iP 1] (gZ ⟨false,1,0⟩):=by
 have:=KI 1 ag;rwa[show((1:Nat):Int)=1 from rfl,age]at this
theorem G5(d:Dy)(p:Nat)(hd:d.ic)(im:8<=p)(ia:p<=512):gW 383 [(gZ d),(iP p)] (.ix [(gZ (jh d p false)),(iP (jx d p false))]):=
 tr true call383 func383 (chain [.c (JK d p false af ae ae)]<|.nil) ah 
theorem G6(d:Dy)(p:Nat)(hd:d.ic)(im:8<=p)(ia:p<=512):gW 382 [(gZ d),(iP p)] (.ix [(gZ (jh d p true)),(iP (jx d p true))]):=
 tr true call382 func382 (chain [.c (JK d p true af ae ae)]<|.nil) ah 
theorem F6(d:Dy)(p:Nat)(up:Bool)(N:Nat)(h:(iy d p up N).2≠0):∀ k,iy d p up (N+k)=iy d p up N
 | 0=>rfl
 |k+1=>by
  have ih:=F6 d p up N h k;show(if(iy d p up (N+k)).2≠0 then iy d p up (N+k)else _)=_;rw[ih,aS h]
theorem sE{d:Dy}{p:Nat}{up:Bool}{k:Nat}(h:(iy d p up k).2=0):iy d p up (k+1)=(jh (my (iy d p up k).1 d) p up,jx (my (iy d p up k).1 d) p up):=by
 show(if(iy d p up k).2≠0 then _ else _)=_;rw[aR (not_not_intro h)];rfl
theorem aar(d:Dy)(n p:Nat)(hd:d.ic)(hn:1<=n)(kj:n<=16)(im:8<=p)(ia:p<=512)(iI:∀ x,x<n-1->(iy d p false x).2=0):gW 381 [(gZ d),(iP n),(iP p),(.fn 383 []),(.fn 189 [])] (.ix [gZ (iy d p false (n-1)).1,iP (iy d p false (n-1)).2]):=
 tr true call381 func381 (chain [.c (G5 _ _ af ae ae:gW 383 [(gZ d),(iP p)] _),.s (Sp.jy (Qn d n p) 0 (n-1) ae (λx hx kn=>by
    have mw:=iI x ae;have hv:=uK d (show 1<=p by omega) (show p<=4096 by omega) false x;exact iC (chain [tT 24 ((((x+1):Nat):Int)<n) ae,tB 27 (by rw[mw];rfl:(((iy d p false x).2)==0)=true),.c (JI ((iy d p false x).1) d p af af ae ae),
     iu ((((x+1):Nat):Int)+1) ae]<|.e (chain [.o 13 (.int (by rw[sE mw]):PV.le (.e (iP (jx (my ((iy d p false x).1) d) p false))) (.e (iP ((iy d p false (x+1)).2)))),.b 12 (.iS (by rw[sE mw]):Bx.le (.cells 39 (jr (jh (my ((iy d p false x).1) d) p false))) (.cells 39 (jr ((iy d p false (x+1)).1))))]<|.nil)) ah)
  (λhx=>by
    exact iC (chain [tF 24 (((((n-1)+1):Nat):Int)<n) ae]<|.nil) ah) ak:jv 3 f381 (Qn d n p 0) (.exit 0) ⟨41,true,[(13,.e (iP ((iy d p false (n-1)).2))),(12,.box 12 0),(10,.box 10 0)],[(12,.cells 39 (jr ((iy d p false (n-1)).1))),(10,.cells 39 [(bP false),(.v (.slice none 0 0)),(iP 0)])]⟩) (chain [.o 14 (.int rfl:PV.le (.e (iP 1)) (.e (iP (((0+1):Nat):Int)))),.o 13 (.int rfl:PV.le (.e (iP (jx d p false))) (.e (iP ((iy d p false 0).2)))),.b 12 (.iS rfl:Bx.le (.cells 39 (jr (jh d p false))) (.cells 39 (jr ((iy d p false 0).1))))]<|.nil)]<|.nil) ah 
theorem aas(d:Dy)(n N p:Nat)(hd:d.ic)(hn:1<=n)(kj:n<=16)(im:8<=p)(ia:p<=512)(mz:N<n-1)(iI:∀ x,x<N->(iy d p false x).2=0)(hN:(iy d p false N).2≠0):gW 381 [(gZ d),(iP n),(iP p),(.fn 383 []),(.fn 189 [])] (.ix [gZ (iy d p false N).1,iP (iy d p false N).2]):=
 tr true call381 func381 (chain [.c (G5 _ _ af ae ae:gW 383 [(gZ d),(iP p)] _),.s (Sp.jy (Qo d n N p) 0 N ae (λx hx kn=>by
    have mw:=iI x ae;have hv:=uK d (show 1<=p by omega) (show p<=4096 by omega) false x;exact iC (chain [tT 24 ((((x+1):Nat):Int)<n) ae,tB 27 (by rw[mw];rfl:(((iy d p false x).2)==0)=true),.c (JI ((iy d p false x).1) d p af af ae ae),
     iu ((((x+1):Nat):Int)+1) ae]<|.e (chain [.o 13 (.int (by rw[sE mw]):PV.le (.e (iP (jx (my ((iy d p false x).1) d) p false))) (.e (iP ((iy d p false (x+1)).2)))),.b 12 (.iS (by rw[sE mw]):Bx.le (.cells 39 (jr (jh (my ((iy d p false x).1) d) p false))) (.cells 39 (jr ((iy d p false (x+1)).1))))]<|.nil)) ah)
  (λhx=>by
    exact iC (chain [tT 24 ((((N+1):Nat):Int)<n) ae,tB 27 (by simpa using hN:(((iy d p false N).2)==0)=false)]<|.nil) ah) ak:jv 3 f381 (Qo d n N p 0) (.exit 0) ⟨41,true,[(13,.e (iP ((iy d p false N).2))),(12,.box 12 0),(10,.box 10 0)],[(12,.cells 39 (jr ((iy d p false N).1))),(10,.cells 39 [(bP false),(.v (.slice none 0 0)),(iP 0)])]⟩) (chain [.o 14 (.int rfl:PV.le (.e (iP 1)) (.e (iP (((0+1):Nat):Int)))),.o 13 (.int rfl:PV.le (.e (iP (jx d p false))) (.e (iP ((iy d p false 0).2)))),.b 12 (.iS rfl:Bx.le (.cells 39 (jr (jh d p false))) (.cells 39 (jr ((iy d p false 0).1))))]<|.nil)]<|.nil) ah 
theorem aat(d:Dy)(n p:Nat)(hd:d.ic)(hn:1<=n)(kj:n<=16)(im:8<=p)(ia:p<=512):gW 381 [(gZ d),(iP n),(iP p),(.fn 383 []),(.fn 189 [])] (.ix [gZ (iy d p false (n-1)).1,iP (iy d p false (n-1)).2]):=by
 by_cases h:∃ x,x<n-1/\decide ((iy d p false x).2≠0)=true
 .obtain ⟨N,h1,h2,h3⟩:=qx h
  have hN:(iy d p false N).2≠0:=ck h2;have:=aas d n N p hd hn kj im ia h1 (λx hx=>by simpa using h3 x hx) hN;have e:=F6 d p false N hN (n-1-N);rw[show N+(n-1-N)=n-1 by omega]at e;rw[e];exact this
 .exact aar d n p hd hn kj im ia λx hx=>bG λq=>h ⟨x,hx,aT q⟩
theorem aau(d:Dy)(n p:Nat)(hd:d.ic)(hn:1<=n)(kj:n<=16)(im:8<=p)(ia:p<=512)(iI:∀ x,x<n-1->(iy d p true x).2=0):gW 381 [(gZ d),(iP n),(iP p),(.fn 382 []),(.fn 190 [])] (.ix [gZ (iy d p true (n-1)).1,iP (iy d p true (n-1)).2]):=
 tr true call381 func381 (chain [.c (G6 _ _ af ae ae:gW 382 [(gZ d),(iP p)] _),.s (Sp.jy (Qp d n p) 0 (n-1) ae (λx hx kn=>by
    have mw:=iI x ae;have hv:=uK d (show 1<=p by omega) (show p<=4096 by omega) true x;exact iC (chain [tT 24 ((((x+1):Nat):Int)<n) ae,tB 27 (by rw[mw];rfl:(((iy d p true x).2)==0)=true),.c (JJ ((iy d p true x).1) d p af af ae ae),
     iu ((((x+1):Nat):Int)+1) ae]<|.e (chain [.o 13 (.int (by rw[sE mw]):PV.le (.e (iP (jx (my ((iy d p true x).1) d) p true))) (.e (iP ((iy d p true (x+1)).2)))),.b 12 (.iS (by rw[sE mw]):Bx.le (.cells 39 (jr (jh (my ((iy d p true x).1) d) p true))) (.cells 39 (jr ((iy d p true (x+1)).1))))]<|.nil)) ah)
  (λhx=>by
    exact iC (chain [tF 24 (((((n-1)+1):Nat):Int)<n) ae]<|.nil) ah) ak:jv 3 f381 (Qp d n p 0) (.exit 0) ⟨41,true,[(13,.e (iP ((iy d p true (n-1)).2))),(12,.box 12 0),(10,.box 10 0)],[(12,.cells 39 (jr ((iy d p true (n-1)).1))),(10,.cells 39 [(bP false),(.v (.slice none 0 0)),(iP 0)])]⟩) (chain [.o 14 (.int rfl:PV.le (.e (iP 1)) (.e (iP (((0+1):Nat):Int)))),.o 13 (.int rfl:PV.le (.e (iP (jx d p true))) (.e (iP ((iy d p true 0).2)))),.b 12 (.iS rfl:Bx.le (.cells 39 (jr (jh d p true))) (.cells 39 (jr ((iy d p true 0).1))))]<|.nil)]<|.nil) ah 
theorem aav(d:Dy)(n N p:Nat)(hd:d.ic)(hn:1<=n)(kj:n<=16)(im:8<=p)(ia:p<=512)(mz:N<n-1)(iI:∀ x,x<N->(iy d p true x).2=0)(hN:(iy d p true N).2≠0):gW 381 [(gZ d),(iP n),(iP p),(.fn 382 []),(.fn 190 [])] (.ix [gZ (iy d p true N).1,iP (iy d p true N).2]):=
 tr true call381 func381 (chain [.c (G6 _ _ af ae ae:gW 382 [(gZ d),(iP p)] _),.s (Sp.jy (Qq d n N p) 0 N ae (λx hx kn=>by
    have mw:=iI x ae;have hv:=uK d (show 1<=p by omega) (show p<=4096 by omega) true x;exact iC (chain [tT 24 ((((x+1):Nat):Int)<n) ae,tB 27 (by rw[mw];rfl:(((iy d p true x).2)==0)=true),.c (JJ ((iy d p true x).1) d p af af ae ae),
     iu ((((x+1):Nat):Int)+1) ae]<|.e (chain [.o 13 (.int (by rw[sE mw]):PV.le (.e (iP (jx (my ((iy d p true x).1) d) p true))) (.e (iP ((iy d p true (x+1)).2)))),.b 12 (.iS (by rw[sE mw]):Bx.le (.cells 39 (jr (jh (my ((iy d p true x).1) d) p true))) (.cells 39 (jr ((iy d p true (x+1)).1))))]<|.nil)) ah)
  (λhx=>by
    exact iC (chain [tT 24 ((((N+1):Nat):Int)<n) ae,tB 27 (by simpa using hN:(((iy d p true N).2)==0)=false)]<|.nil) ah) ak:jv 3 f381 (Qq d n N p 0) (.exit 0) ⟨41,true,[(13,.e (iP ((iy d p true N).2))),(12,.box 12 0),(10,.box 10 0)],[(12,.cells 39 (jr ((iy d p true N).1))),(10,.cells 39 [(bP false),(.v (.slice none 0 0)),(iP 0)])]⟩) (chain [.o 14 (.int rfl:PV.le (.e (iP 1)) (.e (iP (((0+1):Nat):Int)))),.o 13 (.int rfl:PV.le (.e (iP (jx d p true))) (.e (iP ((iy d p true 0).2)))),.b 12 (.iS rfl:Bx.le (.cells 39 (jr (jh d p true))) (.cells 39 (jr ((iy d p true 0).1))))]<|.nil)]<|.nil) ah 
theorem aaw(d:Dy)(n p:Nat)(hd:d.ic)(hn:1<=n)(kj:n<=16)(im:8<=p)(ia:p<=512):gW 381 [(gZ d),(iP n),(iP p),(.fn 382 []),(.fn 190 [])] (.ix [gZ (iy d p true (n-1)).1,iP (iy d p true (n-1)).2]):=by
 by_cases h:∃ x,x<n-1/\decide ((iy d p true x).2≠0)=true
 .obtain ⟨N,h1,h2,h3⟩:=qx h
  have hN:(iy d p true N).2≠0:=ck h2;have:=aav d n N p hd hn kj im ia h1 (λx hx=>by simpa using h3 x hx) hN;have e:=F6 d p true N hN (n-1-N);rw[show N+(n-1-N)=n-1 by omega]at e;rw[e];exact this
 .exact aau d n p hd hn kj im ia λx hx=>bG λq=>h ⟨x,hx,aT q⟩
theorem Qb(d:Dy)(n p:Nat)(hd:d.ic)(h0:¬d.iK<0)(hn:1<=n)(kj:n<=16)(im:8<=p)(ia:p<=512):gW 363 [(gZ d),(iP n),(iP p),(bP false)] (.ix [gZ (kv d n p false).1,iP (kv d n p false).2]):=
 tr true call363 func363 (chain [.c (og _ af:gW 46 [(gZ d)] _),tB 14 (aU h0),.c (aat _ _ _ af ae ae ae ae:gW 381 [(gZ d),(iP n),(iP p),(.fn 383 []),(.fn 189 [])] _)]<|rQ (.ix [(gZ ((iy d p false (n-1)).1)),(iP ((iy d p false (n-1)).2))]) (.ix [gZ (kv d n p false).1,iP (kv d n p false).2]) (by unfold kv;rw[aR h0])) ah 
theorem Qc(d:Dy)(n p:Nat)(hd:d.ic)(h0:¬d.iK<0)(hn:1<=n)(kj:n<=16)(im:8<=p)(ia:p<=512):gW 363 [(gZ d),(iP n),(iP p),(bP true)] (.ix [gZ (kv d n p true).1,iP (kv d n p true).2]):=
 tr true call363 func363 (chain [.c (og _ af:gW 46 [(gZ d)] _),tB 14 (aU h0),.c (aaw _ _ _ af ae ae ae ae:gW 381 [(gZ d),(iP n),(iP p),(.fn 382 []),(.fn 190 [])] _)]<|rQ (.ix [(gZ ((iy d p true (n-1)).1)),(iP ((iy d p true (n-1)).2))]) (.ix [gZ (kv d n p true).1,iP (kv d n p true).2]) (by unfold kv;rw[aR h0])) ah 
theorem X6{d:Dy}(h:d.iK<0):¬(iF d).iK<0:=by
 rw[(oD _).2,lX];have:=(oD d).2.1 h
 grind
theorem Z7(d:Dy)(n p:Nat)(hd:d.ic)(h0:¬d.iK<0)(hn:1<=n)(kj:n<=16)(im:8<=p)(ia:p<=512):gW 363 [gZ d,iP (n:Int),iP (p:Int),bP false] (.ix [gZ (iy d p false (n-1)).1,iP (iy d p false (n-1)).2]):=by
 have:=Qb d n p hd h0 hn kj im ia;unfold kv at this;rwa[aR h0]at this
theorem Z8(d:Dy)(n p:Nat)(hd:d.ic)(h0:¬d.iK<0)(hn:1<=n)(kj:n<=16)(im:8<=p)(ia:p<=512):gW 363 [gZ d,iP (n:Int),iP (p:Int),bP true] (.ix [gZ (iy d p true (n-1)).1,iP (iy d p true (n-1)).2]):=by
 have:=Qc d n p hd h0 hn kj im ia;unfold kv at this;rwa[aR h0]at this
theorem Z5(d:Dy)(n p:Nat)(hd:d.ic)(h0:d.iK<0)(hn:1<=n)(kj:n<=16)(im:8<=p)(ia:p<=512):gW 363 [(gZ d),(iP n),(iP p),(bP false)] (.ix [gZ (kv d n p false).1,iP (kv d n p false).2]):=by
 have E5:=qA hd;have h1:=X6 h0;have hv:=uK (iF d) (show 1<=p by omega) (show p<=4096 by omega) true (n-1);exact tr true call363 func363 (chain [.c (og _ af:gW 46 [(gZ d)] _),tB 14 (aT h0),.c (yJ _ af:gW 166 [(gZ d)] _),.c (Z8 _ _ _ E5 h1 hn kj im ia:gW 363 [(gZ (iF d)),(iP n),(iP p),(bP true)] _),.c (yJ _ af:gW 166 [(gZ ((iy (iF d) p true (n-1)).1))] _)]<|rQ (.ix [(gZ (iF ((iy (iF d) p true (n-1)).1))),(iP ((iy (iF d) p true (n-1)).2))]) (.ix [gZ (kv d n p false).1,iP (kv d n p false).2]) (by unfold kv;rw[aS h0];rfl)) ah 
theorem Qd(d:Dy)(n p:Nat)(hd:d.ic)(hn:1<=n)(kj:n<=16)(im:8<=p)(ia:p<=512):gW 363 [gZ d,iP (n:Int),iP (p:Int),bP false] (.ix [gZ (kv d n p false).1,iP (kv d n p false).2]):=by
 by_cases h0:d.iK<0
 .exact Z5 d n p hd h0 hn kj im ia
 .exact Qb d n p hd h0 hn kj im ia
theorem Z6(d:Dy)(n p:Nat)(hd:d.ic)(h0:d.iK<0)(hn:1<=n)(kj:n<=16)(im:8<=p)(ia:p<=512):gW 363 [(gZ d),(iP n),(iP p),(bP true)] (.ix [gZ (kv d n p true).1,iP (kv d n p true).2]):=by
 have E5:=qA hd;have h1:=X6 h0;have hv:=uK (iF d) (show 1<=p by omega) (show p<=4096 by omega) false (n-1);exact tr true call363 func363 (chain [.c (og _ af:gW 46 [(gZ d)] _),tB 14 (aT h0),.c (yJ _ af:gW 166 [(gZ d)] _),.c (Z7 _ _ _ E5 h1 hn kj im ia:gW 363 [(gZ (iF d)),(iP n),(iP p),(bP false)] _),.c (yJ _ af:gW 166 [(gZ ((iy (iF d) p false (n-1)).1))] _)]<|rQ (.ix [(gZ (iF ((iy (iF d) p false (n-1)).1))),(iP ((iy (iF d) p false (n-1)).2))]) (.ix [gZ (kv d n p true).1,iP (kv d n p true).2]) (by unfold kv;rw[aS h0];rfl)) ah 
theorem Qe(d:Dy)(n p:Nat)(hd:d.ic)(hn:1<=n)(kj:n<=16)(im:8<=p)(ia:p<=512):gW 363 [gZ d,iP (n:Int),iP (p:Int),bP true] (.ix [gZ (kv d n p true).1,iP (kv d n p true).2]):=by
 by_cases h0:d.iK<0
 .exact Z6 d n p hd h0 hn kj im ia
 .exact Qc d n p hd h0 hn kj im ia
theorem aax(x:Iv)(n p:Nat)(hx:x.ic)(ha:x.all=true)(hn:n<=16)(im:8<=p)(ia:p<=512):gW 326 [(ib x),(iP n),(iP p)] (ib (lP x n p)):=
 tr true call326 func326 (chain [.o 12 (.e (mH _):PV.le (.e (.sl true 1 7 λi_ j_=>(ja x).getD (i_*7+j_) (.v (.bool false)))) (.e (ij [x]))),.c (pS _ af:gW 93 [(ij [x])] _),tB 13 (by rw[ha];rfl:(!x.all)=false),.c nF]<|rQ (ib ig) (ib (lP x n p)) (by unfold lP;rw[aS ha])) ah 
theorem aaB(x:Iv)(n p:Nat)(hx:x.ic)(ha:x.all=false)(h0:n=0)(im:8<=p)(ia:p<=512):gW 326 [(ib x),(iP n),(iP p)] (ib (lP x n p)):=by
 have v1:=DJ;exact tr true call326 func326 (chain [.o 12 (.e (mH _):PV.le (.e (.sl true 1 7 λi_ j_=>(ja x).getD (i_*7+j_) (.v (.bool false)))) (.e (ij [x]))),.c (pS _ af:gW 93 [(ij [x])] _),tB 13 (by rw[ha];rfl:(!x.all)=true),.c (vH _:gW 147 [(iP p)] _),tB 17 (pn.2 ⟨ae,ae⟩:(lE (p:Int))=true),tF 22 ((n:Int)<0) ae,tF 26 (16<(n:Int)) ae,tB 30 (r7 h0:((n:Int)==0)=true),.c (KH:gW 180 [(iP 1)] _),.c (Du (Dy.mk false 1 0) af)]<|rQ (ib (mo (Dy.mk false 1 0))) (ib (lP x n p)) (by unfold lP;rw[aR (by rw[ha];decide),aS h0])) ah 
theorem aay(x:Iv)(n p:Nat)(hx:x.ic)(ha:x.all=false)(h0:n≠0)(hn:n<=16)(he:n%2=0)(im:8<=p)(ia:p<=512):gW 326 [(ib x),(iP n),(iP p)] (ib (lP x n p)):=by
 have va:=Cw hx;obtain⟨w1,w2⟩:=va.j9;exact tr true call326 func326 (chain [.o 12 (.e (mH _):PV.le (.e (.sl true 1 7 λi_ j_=>(ja x).getD (i_*7+j_) (.v (.bool false)))) (.e (ij [x]))),.c (pS _ af:gW 93 [(ij [x])] _),tB 13 (by rw[ha];rfl:(!x.all)=true),.c (vH _:gW 147 [(iP p)] _),tB 17 (pn.2 ⟨ae,ae⟩:(lE (p:Int))=true),tF 22 ((n:Int)<0) ae,tF 26 (16<(n:Int)) ae,tB 30 (nv h0:((n:Int)==0)=false),.a (ae:0<(2:Int)),.o 34 (.int (by rw[gL ae];omega):PV.le (.e (iP (Int.tmod (n:Int) 2))) (.e (iP (((n%2):Nat):Int)))),tB 35 (r7 he:((((n%2):Nat):Int)==0)=true),.c (Nc x af),.c (Qd _ _ _ af ae ae ae ae:gW 363 [(gZ ((iZ x).lo)),(iP n),(iP p),(bP false)] _),.c (Qe _ _ _ af ae ae ae ae:gW 363 [(gZ ((iZ x).hi)),(iP n),(iP p),(bP true)] _),.c (BS ((kv ((iZ x).lo) n p false).1) ((kv ((iZ x).hi) n p true).1) ((kv ((iZ x).lo) n p false).2) ((kv ((iZ x).hi) n p true).2))]<|rQ (ib (kI ((kv ((iZ x).lo) n p false).1) ((kv ((iZ x).lo) n p false).2) ((kv ((iZ x).hi) n p true).1) ((kv ((iZ x).hi) n p true).2))) (ib (lP x n p)) (by unfold lP oi;rw[aR (by rw[ha];decide),aR h0,aS he])) ah 
theorem aaz(x:Iv)(n p:Nat)(hx:x.ic)(ha:x.all=false)(h0:n≠0)(hn:n<=16)(he:¬n%2=0)(im:8<=p)(ia:p<=512):gW 326 [(ib x),(iP n),(iP p)] (ib (lP x n p)):=by
 have va:=hx;obtain⟨w1,w2⟩:=va.j9;exact tr true call326 func326 (chain [.o 12 (.e (mH _):PV.le (.e (.sl true 1 7 λi_ j_=>(ja x).getD (i_*7+j_) (.v (.bool false)))) (.e (ij [x]))),.c (pS _ af:gW 93 [(ij [x])] _),tB 13 (by rw[ha];rfl:(!x.all)=true),.c (vH _:gW 147 [(iP p)] _),tB 17 (pn.2 ⟨ae,ae⟩:(lE (p:Int))=true),tF 22 ((n:Int)<0) ae,tF 26 (16<(n:Int)) ae,tB 30 (nv h0:((n:Int)==0)=false),.a (ae:0<(2:Int)),.o 34 (.int (by rw[gL ae];omega):PV.le (.e (iP (Int.tmod (n:Int) 2))) (.e (iP (((n%2):Nat):Int)))),tB 35 (nv he:((((n%2):Nat):Int)==0)=false),.c (Qd _ _ _ af ae ae ae ae:gW 363 [(gZ x.lo),(iP n),(iP p),(bP false)] _),.c (Qe _ _ _ af ae ae ae ae:gW 363 [(gZ x.hi),(iP n),(iP p),(bP true)] _),.c (BS ((kv x.lo n p false).1) ((kv x.hi n p true).1) ((kv x.lo n p false).2) ((kv x.hi n p true).2))]<|rQ (ib (kI ((kv x.lo n p false).1) ((kv x.lo n p false).2) ((kv x.hi n p true).1) ((kv x.hi n p true).2))) (ib (lP x n p)) (by unfold lP oi;rw[aR (by rw[ha];decide),aR h0,aR he])) ah 
theorem aaA(x:Iv)(n p:Nat)(hx:x.ic)(hn:n<=16)(im:8<=p)(ia:p<=512):gW 326 [ib x,iP (n:Int),iP (p:Int)] (ib (lP x n p)):=by
 cases ha:x.all with
 |true=>exact aax x n p hx ha hn im ia
 |false=>
  by_cases h0:n=0
  .exact aaB x n p hx ha h0 im ia
  .by_cases he:n%2=0
   .exact aay x n p hx ha h0 hn he im ia
   .exact aaz x n p hx ha h0 hn he im ia
theorem aaf(x y:Iv)(hx:x.ic)(hy:y.ic)(xa:x.all=false)(ya:y.all=false):gW 258 [(ib x),(ib y)] (ib (Dm x y)):=by
 obtain⟨v1,v2⟩:=hx.j9;obtain⟨v3,v4⟩:=hy.j9;exact tr true call258 func258 (chain [.o 7 (.e (y9 _ _):PV.le (.e (.sl true 2 7 λi_ j_=>(ja x++ja y).getD (i_*7+j_) (.v (.bool false)))) (.e (ij [x,y]))),.c (y8 _ _ af af:gW 93 [(ij [x,y])] _),tB 8 (by rw[xa,ya];rfl:(!(x.all||y.all))=true),.c (Jc x.lo y.lo af af),.c (Jd x.hi y.hi af af)]<|rQ (ib (Iv.mk (iU x.lo y.lo) (iR x.hi y.hi) false)) (ib (Dm x y)) (by unfold Dm;rw[xa,ya];rfl)) ah 
theorem Qv(z:Int):(z==0)=decide (z=0):=by by_cases h:z=0<;>simp[h]
theorem KL(x:Iv)(p:Nat)(hx:x.ic)(xa:x.all=false)(im:8<=p)(ia:p<=512):gW 260 [(ib x),(iP p)] (.ix [gZ (tY x p),bP (decide (Bd x p=0))]):=by
 obtain⟨v1,v2⟩:=hx.j9;have v3:=qA v1;exact tr true call260 func260 (chain [.o 9 (.e (mH _):PV.le (.e (.sl true 1 7 λi_ j_=>(ja x).getD (i_*7+j_) (.v (.bool false)))) (.e (ij [x]))),.c (pS _ af:gW 93 [(ij [x])] _),tB 10 (by rw[xa];rfl:(!x.all)=true),.c (vH _:gW 147 [(iP p)] _),tB 14 (pn.2 ⟨ae,ae⟩:(lE (p:Int))=true),.c (yJ _ af:gW 166 [(gZ x.lo)] _),.c (W4 x.hi (iF x.lo) p af af ae ae)]<|rQ (.ix [(gZ (jh (iJ x.hi (iF x.lo)) p true)),(bP ((jx (iJ x.hi (iF x.lo)) p true)==0))]) (.ix [gZ (tY x p),bP (decide (Bd x p=0))]) (by rw[Qv];rfl)) ah 
theorem G4(x y:Iv):pg x y=(y.all||(!x.all&&(decide (jo y.lo x.lo<=0)&&decide (jo x.hi y.hi<=0)))):=rfl
theorem aag(x y:Iv)(hx:x.ic)(hy:y.ic):gW 70 [(ib x),(ib y)] (bP (pg x y)):=by
 obtain⟨v1,v2⟩:=hx.j9;obtain⟨v3,v4⟩:=hy.j9;exact tr true call70 func70 (chain [.c (qY x af),.c (qY y af)]<|.w (y.all=true)
  (λk1=>chain [tB 14 (k1)]<|rQ (bP true) (bP (pg x y)) (by rw[G4];simp[k1]))
  (λk1=>chain [tB 14 (aO k1)]<|.w (x.all=true)
   (λk2=>chain [tB 17 (k2)]<|rQ (bP false) (bP (pg x y)) (by rw[G4];simp[k1,k2]))
   (λk2=>chain [tB 17 (aO k2),.c (oe _ _ af af:gW 122 [(gZ y.lo),(gZ x.lo)] _)]<|.w ((jo y.lo x.lo)<=0)
    (λk3=>chain [tB 25 (aT k3),.c (oe _ _ af af:gW 122 [(gZ x.hi),(gZ y.hi)] _)]<|rQ (bP (decide ((jo x.hi y.hi)<=0))) (bP (pg x y)) (by rw[G4];simp[k1,k2,k3]))
    (λk3=>chain [tB 25 (aU k3)]<|rQ (bP false) (bP (pg x y)) (by rw[G4];simp[k1,k2,k3]))))) ah 
theorem ans{α:Type}{l:List α}{i:Nat}{d:α}(h:i<l.length):l.getD i d=l[i]:=by
 rw[aW,bg h];rfl
theorem ze{T n n' k:Nat}{F:Nat->Iv}{y:Iv}(hn:n=k)(wT:n'=k+1)(hy:y=F k):
 Bx.le (.row true T (n+[y].length) 7 λi j=>if i<n then kp ((List.range k).map F) i j else(E.ml (ij [y])) (i-n) j) (.row true T n' 7 (kp ((List.range (k+1)).map F))):=by
 subst hn wT hy;refine .row rfl λi j hi hj=>⟨.iS ?_,Dt _ _ hj⟩
 have hi:i<n+1:=hi;by_cases h:i<n
 .rw [aS h]
  simp only[kp];rw[Oo h,Oo hi]
 .have oH:i=n:= ae 
  subst oH;rw[aR h,cU];simp only[kp];rw[Oo hi];rfl
theorem AI{n:Nat}{M:List Iv}(hn:n=M.length):E.le (.sl true n 7 (kp M)) (ij M):=by subst hn;exact .refl _
theorem B3(n:Nat)(h:n<4294967296):(jF (n:Int)).ic:=vR (M8 n h)
theorem abL(m:Nat)(e:Int):(canon false m e).neg=false:=by unfold canon;split<;>rfl
theorem af8{c:Nat}(hc:0<c):(jf (c:Int)).m≠0:=by
 rw[BP];exact(Bj (s:=false) (e:=0) ae).2.2.1
theorem ahT{c:Nat}(hc:0<c):lK (jF (c:Int))=1:=by
 unfold lK jF mo;simp only[bq,a7];rw[aS];unfold Dy.iK;rw[aR (af8 hc),show(jf (c:Int)).neg=false by rw[BP];exact abL _ _];simp
section
variable {m m':List (List Iv)} {h h':Iv} {n p:Nat}
theorem NK(j:Nat)(hj:j<4294967296):(jF (j:Int)).ic:=vR (M8 j hj)
end
theorem VY(c:Nat):(jF (c:Int)).lo.q=(c:Rat)/\(jF (c:Int)).hi.q=(c:Rat)/\(jF (c:Int)).all=false:=by
 refine⟨?_,?_,rfl⟩
 .show (jf _).q=_
  rw[xX];exact dO c
 .show (jf _).q=_
  rw[xX];exact dO c
theorem DU(s:Bool)(m:Nat)(e:Int)(hl:(gV m).length<=3000)(kT:-1000000<=e)(kA:e<=1000000):gW 186 [bP s,gY (gV m),iP e] (gZ (canon s m e)):=by
 refine⟨call186,λw B vs hK hB hr=>?_⟩;obtain⟨v1,vs,rfl,h1,hr⟩:=hr.mg;obtain⟨v2,vs,rfl,h2,hr⟩:=hr.mg;obtain⟨v3,vs,rfl,h3,hr⟩:=hr.mg;obtain rfl:=hr.qk;obtain rfl:=iH.kP h1;obtain rfl:=iH.kP h3;obtain⟨A,c,rfl,s1⟩:=uO (kE m) h2;have:=Gi s A c (gV m) e w s1 hl kT kA;rw[jC]at this;exact this.mono λe w' h=>rd B w e w' hB h
theorem zF(a:Dy)(ha:a.ic):gW 96 [gZ a] (bP true):=xV call96 (λA c w h _=>aj9 a A c w h ha) rv
theorem vW(a:Dy):gW 53 [gZ a] (iP a.iK):=xV call53 (λA c w h _=>aj5 a A c w h) rv
theorem sc(a:Dy):gW 146 [gZ a] (gZ (iF a)):=
 xV call146 (λA c w h _=>by
  have:=ajW a.neg A c (gV a.m) a.e w h (tX _);rw[jC]at this;exact this) rd
theorem JM(a:Dy)(ha:uX a):gW 171 [gZ a] (iP a.iw):=xV call171 (λA c w h _=>aj8 a A c w h ha) rv
theorem Xu(n:Nat)(hn:n<4294967296):gW 112 [iP (n:Int)] (gZ (canon false n 0)):=by
 refine⟨call112,λw B vs hK hB hr=>?_⟩;obtain⟨v1,vs,rfl,h1,hr⟩:=hr.mg;obtain rfl:=hr.qk;obtain rfl:=iH.kP h1;exact(ajT n w hn).mono λe w' h=>rd B w e w' hB h
theorem Xt(a b:Dy)(r:Bool)(hr:r=true↔a=b)(ha:(gV a.m).length<=100000)(hb:(gV b.m).length<=100000):gW 83 [gZ a,gZ b] (bP r):=
 FZ call83 (λA c A' c' w h k _=>ajP a b A A' c c' w _ h k ha hb hr) rv
end Go.Proofs.YtkjkcjhacddojaaGreatDoor
namespace Go.Proofs.YtkjkcjhacddojaaGreatDoor.Fp
theorem Vf(m k:Nat):kf (m/2^k*2^k) m=0↔m%2^k=0:=by
 have h1:=bY m (2^k);rw[bc]at h1;unfold kf;split
 .simp;omega
 .split
  .have:=cO m (2^k);omega
  .simp;omega
theorem Ri{neg up more:Bool}{m p q:Nat}{e:Int}(hq:kH m e more p (neg != up)=q)(h:q=0\/¬16384<(ie q:Int)+e+jc m e p):jR neg m e more p up=canon neg q (e+jc m e p)/\jH neg m e more p up=0:=by
 have ho:lV m e more p (neg != up)=false:=by
  unfold lV;rw[hq];rcases h with h|h
  .simp [h]
  .simp [h]
 unfold jR jH;rw[ho,hq];simp
theorem Rk{neg up more:Bool}{m p q:Nat}{e:Int}(hq:kH m e more p (neg != up)=q)(h0:q≠0)(h:16384<(ie q:Int)+e+jc m e p):
 ((neg != up)=true->jR neg m e more p up=jA/\jH neg m e more p up=9)/\((neg != up)=false->jR neg m e more p up=canon neg (2^p-1) (16384-p)/\jH neg m e more p up=0):=by
 have ho:lV m e more p (neg != up)=true:=by unfold lV;rw[hq];simp[h0,h]
 unfold jR jH;rw[ho];constructor
 .intro hn;rw[hn];exact⟨rfl,rfl⟩
 .intro hn;rw[hn];exact⟨rfl,rfl⟩
end Go.Proofs.YtkjkcjhacddojaaGreatDoor.Fp
namespace Go.Proofs.YtkjkcjhacddojaaGreatDoor
open Go.RowKit Fp Pu
theorem aj2(d:Dy)(k:Int)(hd:d.ic)(oz:-32768<=k)(sV:k<=32768)(hr:mW (canon d.neg d.m (d.e+k))):gW 111 [gZ d,iP k] (.ix [gZ (canon d.neg d.m (d.e+k)),iP 0]):=by
 refine⟨call111,λw B vs hK hB Fc=>?_⟩;obtain⟨v1,vs,rfl,h1,Fc⟩:=Fc.mg;obtain⟨v2,vs,rfl,h2,Fc⟩:=Fc.mg;obtain rfl:=Fc.qk;obtain⟨A,c,rfl,s1⟩:=Hz h1;obtain rfl:=iH.kP h2;have:=aj3 d.neg A c (gV d.m) d.e k w s1 hd.vc oz sV (by rw[jC];exact hr);rw[jC]at this;exact this.mono λe w' h=>Gh B w e w' hB h
theorem QP{n:Int}{e:Int}:canon (jf n).neg (jf n).m ((jf n).e+e)=kY n e:=by
 unfold jf kY;by_cases h:n.natAbs=0
 .rw [h,CG,CG]
  show canon false 0 _=_;rw[CG]
 .have h1:=Ew h
  rw[show canon (decide (n<0)) n.natAbs 0=⟨decide (n<0),n.natAbs/2^jQ n.natAbs,0+(jQ n.natAbs:Int)⟩by unfold canon;rw[aR h]];show canon (decide (n<0)) (n.natAbs/2^jQ n.natAbs) (0+(jQ n.natAbs:Int)+e)=_;rw[<-K2 _ _ _ (jQ n.natAbs),h1];congr 1;omega
theorem Eo{n e:Int}(h1:n.natAbs<4294967296)(h2:-1000<=e)(h3:e<=1000):(kY n e).ic:=by
 refine⟨qV _ _ _,?_⟩;unfold kY;by_cases h0:n.natAbs=0
 .rw [h0,CG];exact .inl rfl
 .have:=Bj (s:=decide (n<0)) (e:=e) h0
  have hb:ie n.natAbs<=32:=kR.2 h1;obtain⟨h4,h5,h6,_⟩:=this;have:=mY h6;exact .inr ⟨ae,ae,ae,ae⟩
theorem sw{n:Int}(h1:n.natAbs<4294967296):(jf n).ic:=Eo h1 ag ag 
theorem ajR(k:Nat)(w:World)(h0:0<k)(hn:k<4294967296):
 Calls prog 112 #[.int .i64 (-(k:Int))] w (ua w (canon true k 0)):=by
 have hm:=wm k ae;have vD:(k:Int)%4294967296=k:= ae ;rw[vD]at hm;have hd:(k:Int)/4294967296=0:= ae ;have iE:(-(k:Int))<0:= ae ;have Ml:decide ((-(k:Int))<0)=true:=aT iE;have hu:IntKind.u64.wrap (-(k:Int))=18446744073709551616-k:=by rw[IntKind.wrap_u64];omega
 have hs:IntKind.u64.wrap (-(18446744073709551616-(k:Int)))=k:=by rw[IntKind.wrap_u64];omega
 have HC:=aol (λ(A:Option Addr) c w (h:Sl w A c [k,0])=>Gi true A c [k,0] 0 w h aj ag ag);have hv:val [k,0]=k:= aj ;rw[hv]at HC;clear hv;generalize canon true k 0=d at *
 generalize hN:(-(k:Int))=N at *
 go_enter func112,ntmps112;go_wp2_with fail;refine(HC.out _ _ _ (Sl.Kg _ _ aj _ _ k 0 rfl rfl hn ag)).mono ?_;rintro r w1 ⟨A1,c1,rfl,rW,jb⟩;have jK:iz (w.alloc (.cells #[.bool false,.slice none 0 0,.int .i64 0] 39)) w1:=(iz.alloc _ _).trans jb;have bx:=(jk.new w false none 0 0 0).ext jK;have b0:=bx.c0;have b1:=bx.c1;have b2:=bx.c2;have f0:=bx.fr 0;have f1:=bx.fr 1;have f2:=bx.fr 2;go_wp2;exact sP rfl rfl rfl (bx.set _ _ _ _ _) rfl (bx.qC rW _ _ _ _ _) (jk.qo ((iz.alloc _ _).trans jK) (aV _) _ _ _ _ _)
theorem UD(k:Nat)(h0:0<k):jf (-(k:Int))=canon true k 0:=by
 unfold jf kY;rw[aT (show(-(k:Int))<0 by omega),fg,dC]
theorem ajS(n:Int)(h:n.natAbs<4294967296):gW 112 [iP n] (gZ (jf n)):=by
 by_cases h0:0<=n
 .obtain ⟨k,rfl⟩:=dD h0
  rw[BP];exact Xu k ae 
 .obtain ⟨k,rfl⟩:∃ k:Nat,n = -(k:Int):=⟨n.natAbs,ae⟩
  rw[UD k ae];refine⟨call112,λw B vs hK hB hr=>?_⟩;obtain⟨v1,vs,rfl,h1,hr⟩:=hr.mg;obtain rfl:=hr.qk;obtain rfl:=iH.kP h1;exact(ajR k w ae ae).mono λe w' h=>rd B w e w' hB h
open Classical in
noncomputable def Fp.s8(d:Dy)(k:Int):Dy:=if mW (canon d.neg d.m (d.e+k))then canon d.neg d.m (d.e+k)else jA
open Classical in
noncomputable def Fp.Ci(d:Dy)(k:Int):Int:=if mW (canon d.neg d.m (d.e+k))then 0 else 9
theorem XQ(d:Dy)(k:Int):(s8 d k).ic:=by
 unfold s8;split
 .rename_i h;exact⟨qV _ _ _,h⟩
 .exact rI
noncomputable def Fp.mS(x:Iv)(k:Int):Iv:=if x.all then ig else kI (s8 x.lo k) (Ci x.lo k) (s8 x.hi k) (Ci x.hi k)
def Fp.qT(x:Iv):Iv:=if x.all then x else⟨iF (mD x),mD x,false⟩
def Fp.pW(n:Int):Dy:=canon false 1 n
theorem vN{n:Int}(h:n.natAbs<4294967296):(jF n).ic:=vR (sw h)
theorem CC{x:Iv}(hx:x.ic):(qT x).ic:=by
 unfold qT;cases kC:x.all
 .have he:=hx.j9
  have hm:=Jk he.1 he.2;simp only[bq,a7];refine .inr ⟨rfl,qA hm,hm,?_⟩;show jo (iF (mD x)) (mD x)<=0;rw[po,lX];obtain⟨a1,a2,_⟩:=BX hx.q;have:=hx.q
  grind
 .exact hx
theorem akP{d:Dy}{k:Int}(h:Ci d k=0):s8 d k=canon d.neg d.m (d.e+k):=by
 unfold Ci at h;unfold s8;split at h
 .rename_i h1;rw[aS h1]
 .cases h
theorem A5{d:Dy}{k:Int}(h:Ci d k=0):(s8 d k).q=d.q*P2 k:=by
 rw[akP h,qP,qB d,qq];cases d.neg<;>simp<;>grind
theorem JW{x:Iv}(hx:x.ic)(k:Int):(mS x k).ic:=by
 unfold mS;split
 .exact mi
 .unfold kI
  split
  .exact mi
  .rename_i h
   refine .inr ⟨rfl,XQ _ _,XQ _ _,?_⟩;rw[po,A5 ae,A5 ae,vK];exact hx.q
theorem OP{x:Iv}{r:Rat}(h:x.jU r)(k:Int):(mS x k).jU (r*P2 k):=by
 unfold mS;split
 .exact .inl rfl
 .rename_i ha
  unfold kI;split
  .exact .inl rfl
  .obtain ⟨h1,h2⟩:=h.j9 (by simpa using ha)
   refine .inr ⟨?_,?_⟩
   .show (s8 x.lo k).q<=_
    rw[A5 ae,vK];exact h1
   .show _<=(s8 x.hi k).q
    rw[A5 ae,vK];exact h2
theorem acJ(k:Nat)(w:World)(h0:0<k)(hn:k<4294967296)(ks:Tb w):
 Calls prog 180 #[.int .i64 (-(k:Int))] w (ua w (canon true k 0)):=by
 have hd:(k:Int)/4294967296=0:= ae ;have iE:(-(k:Int))<0:= ae ;have Ml:decide ((-(k:Int))<0)=true:=aT iE;have hu:IntKind.u64.wrap (-(k:Int))=18446744073709551616-k:=by rw[IntKind.wrap_u64];omega
 have hs:IntKind.u64.wrap (-(18446744073709551616-(k:Int)))=k:=by rw[IntKind.wrap_u64];omega
 have Is:IntKind.u32.wrap (k:Int)=k:=by rw[IntKind.wrap_u32];omega
 have ht:(il [k,0]).length<=256:=by have:=oO [k,0];unfold lZ at this;simp at this;omega
 have HC:=aol (λ(A:Option Addr) c w (h:Sl w A c [k,0]) (hT:Tb w)=>Hy true A c [k,0] 0 w h aj ht ag ag hT);have hv:val [k,0]=k:= aj ;rw[hv]at HC;clear hv ht;generalize canon true k 0=d at *
 generalize hN:(-(k:Int))=N at *
 go_enter func180,ntmps180;go_wp2_with fail;refine(HC.out _ _ _ (Sl.Kg _ _ aj _ _ k 0 rfl rfl hn ag) (ks.below (by first|exact(iz.alloc _ _).trans (iz.alloc _ _)|exact iz.alloc _ _))).mono ?_;rintro r w1 ⟨A1,c1,rfl,rW,jb⟩;have jK:iz (w.alloc (.cells #[.bool false,.slice none 0 0,.int .i64 0] 39)) w1:=(iz.alloc _ _).trans jb;have bx:=(jk.new w false none 0 0 0).ext jK;have b0:=bx.c0;have b1:=bx.c1;have b2:=bx.c2;have f0:=bx.fr 0;have f1:=bx.fr 1;have f2:=bx.fr 2;go_wp2;exact sP rfl rfl rfl (bx.set _ _ _ _ _) rfl (bx.qC rW _ _ _ _ _) (jk.qo ((iz.alloc _ _).trans jK) (aV _) _ _ _ _ _)
theorem qU(n:Int)(h:n.natAbs<4294967296):gW 180 [iP n] (gZ (jf n)):=by
 by_cases h0:0<=n
 .obtain ⟨k,rfl⟩:=dD h0
  exact KI k ae 
 .obtain ⟨k,rfl⟩:∃ k:Nat,n = -(k:Int):=⟨n.natAbs,ae⟩
  rw[UD k ae];refine⟨call180,λw B vs hK hB hr=>?_⟩;obtain⟨v1,vs,rfl,h1,hr⟩:=hr.mg;obtain rfl:=hr.qk;obtain rfl:=iH.kP h1;exact(acJ k w ae ae hK).mono λe w' h=>rd B w e w' hB h
theorem akN(d:Dy)(k:Int):kG (canon d.neg d.m (d.e+k))=s8 d k:=by unfold kG s8;split<;>simp_all
theorem akO(d:Dy)(k:Int):mP (canon d.neg d.m (d.e+k))=Ci d k:=by unfold mP Ci;split<;>simp_all
def iM(f:Nat->Rat):Nat->Rat
 | 0=>0
 |n+1=>iM f n+f n
theorem qp{f g:Nat->Rat}:∀ n,(∀ i,i<n->f i=g i)->iM f n=iM g n
 | 0,_=>rfl
 |n+1,h=>by rw[iM,iM,qp n (λi hi=>h i ae),h n ae]
theorem Cn{f g:Nat->Rat}:∀ n,(∀ i,i<n->f i<=g i)->iM f n<=iM g n
 | 0,_=>bV
 |n+1,h=>by
  have h1:=Cn n (λi hi=>h i ae);have h2:=h n ae;rw[iM,iM];grind
theorem Co{f:Nat->Rat}(n:Nat)(h:∀ i,i<n->0<=f i):0<=iM f n:=by
 induction n with
 |zero=>exact bV
 |succ n ih=>
  have h1:=ih (λi hi=>h i ae);have h2:=h n ae;rw[iM];grind
theorem Ba(f:Nat->Rat)(c:Rat):∀ n,iM (λi=>c*f i) n=c*iM f n
 | 0=>by simp[iM]
 |n+1=>by rw[iM,iM,Ba f c n];grind
theorem D6(f:Nat->Rat)(c:Rat):∀ n,iM (λi=>f i*c) n=iM f n*c
 | 0=>by simp[iM]
 |n+1=>by rw[iM,iM,D6 f c n];grind
theorem Gt(f g:Nat->Rat):∀ n,iM (λi=>f i+g i) n=iM f n+iM g n
 | 0=>by simp only[iM];grind
 |n+1=>by rw[iM,iM,iM,Gt f g n];grind
theorem Gu(f:Nat->Nat->Rat)(m:Nat):∀ n,iM (λi=>iM (λj=>f i j) m) n=iM (λj=>iM (λi=>f i j) n) m
 | 0=>by
  have:∀ m,iM (λ_=>(0:Rat)) m=0:=by
   intro m
   induction m with
   |zero=>rfl
   |succ m ih=>rw[iM,ih];grind
  exact(this m).symm
 |n+1=>by
  rw[iM,Gu f m n,<-Gt];rfl
theorem Yt(f:Nat->Rat):∀ n,iM f (n+1)=f 0+iM (λi=>f (i+1)) n
 | 0=>by simp only[iM];grind
 |n+1=>by rw[iM,Yt f n,iM];grind
def je(x:Rat):Rat:=if 0<=x then x else -x
theorem mT(x:Rat):0<=je x/\x<=je x /\ -x<=je x/\(je x=x/\0<=x\/je x = -x/\x<=0):=by unfold je;split<;>grind
theorem yy{x b:Rat}(h1:x<=b)(h2:-x<=b):je x<=b:=by unfold je;split<;>grind
theorem PK(x y:Rat):je (x+y)<=je x+je y:=by
 obtain⟨a1,a2,a3,_⟩:=mT x;obtain⟨b1,b2,b3,_⟩:=mT y;exact yy aq aq 
theorem yz(x y:Rat):je (x*y)=je x*je y:=by
 obtain⟨_,_,_,a⟩:=mT x;obtain⟨_,_,_,b⟩:=mT y;obtain⟨c1,_,_,c⟩:=mT (x*y);rcases a with⟨e1,h1⟩|⟨e1,h1⟩<;>rcases b with⟨e2,h2⟩|⟨e2,h2⟩<;>rw[e1,e2]
 .have:=bM h1 h2;grind
 .have:=bM h1 (show 0 <= -y by grind);grind
 .have:=bM (show 0 <= -x by grind) h2;grind
 .have:=bM (show 0 <= -x by grind) (show 0 <= -y by grind);grind
theorem Cx(f:Nat->Rat):∀ n,je (iM f n)<=iM (λi=>je (f i)) n
 | 0=>by simp[iM,je]
 |n+1=>by
  have h1:=Cx f n;have h2:=PK (iM f n) (f n);rw[iM,iM];grind
theorem PL:je 0=0:=rfl
abbrev QM:=Nat->Nat->Rat
def qy(n:Nat)(A B:QM):QM:=λi j=>iM (λq=>A i q*B q j) n
def xT:QM:=λi j=>if i=j then 1 else 0
def TQ(n:Nat)(M:QM)(t:Rat):Nat->QM
 | 0=>xT
 |j+1=>λi l=>t/((j+1:Nat):Rat)*qy n (TQ n M t j) M i l
def SQ(n:Nat)(M:QM)(t:Rat):Nat->QM
 | 0=>xT
 |j+1=>λi l=>SQ n M t j i l+TQ n M t (j+1) i l
theorem VZ(j:Nat):(jF (j:Int)).jU ((j:Nat):Rat):=by have:=zw (j:Int);rwa[dO]at this
section
variable {m:List (List Iv)} {h:Iv} {M:QM} {t:Rat} {n p:Nat}
def Aa(n:Nat)(A:QM)(b:Rat):Prop:=∀ i,i<n->iM (λl=>je (A i l)) n<=b
theorem aky{A B:QM}{a b:Rat}(_h0:0<=a)(hb:0<=b)(h1:Aa n A a)(h2:Aa n B b):Aa n (qy n A B) (a*b):=by
 intro i hi;have e1:iM (λl=>je (qy n A B i l)) n<=iM (λl=>iM (λq=>je (A i q)*je (B q l)) n) n:=
  Cn n λl _=>by
   have:=Cx (λq=>A i q*B q l) n;rw[show(λq=>je (A i q*B q l))=λq=>je (A i q)*je (B q l)from funext λq=>yz _ _]at this;exact this
 rw[Gu]at e1;have e2:iM (λq=>iM (λl=>je (A i q)*je (B q l)) n) n<=iM (λq=>je (A i q)*b) n:=
  Cn n λq hq=>by
   rw[Ba];exact cB (h2 q hq) (mT _).1
 rw[D6]at e2;exact bA e1 (bA e2 (b9 (h1 i hi) hb))
def eQ(c:Rat):Nat->Rat
 | 0=>1
 |j+1=>eQ c j*(c/((j+1:Nat):Rat))
theorem AM(j:Nat):(0:Rat)<((j+1:Nat):Rat):=fo.2 ae 
theorem Ru{a b:Rat}(h1:0<=a)(h2:0<b):0<=a/b:=by
 rw[cC];exact bM h1 (bw (fw.2 h2))
theorem ve{c:Rat}(h:0<=c):∀ j,0<=eQ c j
 | 0=>by simp only[eQ];decide
 |j+1=>bM (ve h j) (Ru h (AM j))
theorem alC(n i:Nat):iM (λl=>je (xT i l)) n<=1/\(n<=i->iM (λl=>je (xT i l)) n=0):=by
 induction n with
 |zero=>exact⟨by simp only[iM];grind,λ_=>rfl⟩
 |succ n ih=>
  have e1:je 1=1:= ag ;simp only[iM,xT]at ih ⊢;by_cases h:i=n
  .have:=ih.2 ae 
   rw[this,aS h,e1];exact⟨aq,λh'=>absurd h' ae⟩
  .rw [aR h,PL,Rat.add_zero]
   exact⟨ih.1,λh'=>ih.2 ae⟩
theorem akv{A:QM}{b:Rat}(h:Aa n A b){i l:Nat}(hi:i<n)(hl:l<n):je (A i l)<=b:=by
 have h1:=h i hi;have:∀ m,l<m->je (A i l)<=iM (λl=>je (A i l)) m:=by
  intro m hm
  induction m with
  |zero=>omega
  |succ m ih=>
   rw[iM];have h0:=Co m (f:=λl=>je (A i l)) λi _=>(mT _).1
   have h2:=(mT (A i m)).1;by_cases hq:l=m
   .subst hq;grind
   .have:=ih ae;grind
 exact bA (this n hl) h1
end
theorem J8(g:Nat->Nat->Rat):∀ m,iM (λj=>iM (g j) (m-j)) m=iM (λs=>iM (λj=>g j (s-j)) (s+1)) m
 | 0=>rfl
 |m+1=>by
  have ih:=J8 g m;have e1:iM (λj=>iM (g j) (m+1-j)) m=iM (λj=>iM (g j) (m-j)+g j (m-j)) m:=
   qp m λj hj=>by rw[show m+1-j=m-j+1 by omega];rfl
  have h1:iM (g m) (m+1-m)=g m 0:=by
   rw[show m+1-m=0+1 by omega];simp only[iM];grind
  have h2:iM (λj=>g j (m-j)) (m+1)=iM (λj=>g j (m-j)) m+g m (m-m):=rfl;show iM (λj=>iM (g j) (m+1-j)) m+iM (g m) (m+1-m)=iM (λs=>iM (λj=>g j (s-j)) (s+1)) m+iM (λj=>g j (m-j)) (m+1);rw[e1,Gt,h1,h2,ih,cU]
  grind
theorem Gv{f:Nat->Rat}(h:∀ i,0<=f i){m k:Nat}(hk:m<=k):iM f m<=iM f k:=by
 induction k with
 |zero=>
  have:m=0:= ae ;rw[this];exact bV
 |succ k ih=>
  by_cases hm:m=k+1
  .rw [hm];exact bV
  .have:=ih ae 
   have:=h k;rw[iM];grind
theorem D7(f:Nat->Rat)(m:Nat):∀ d,iM f (m+d)=iM f m+iM (λi=>f (m+i)) d
 | 0=>by simp only[iM,bB];grind
 |d+1=>by
  show iM f (m+d)+f (m+d)=_;rw[D7 f m d,iM];grind
theorem H9(c:Rat)(j:Nat):eQ c (j+1)*((j+1:Nat):Rat)=c*eQ c j:=by
 have h:c/((j+1:Nat):Rat)*((j+1:Nat):Rat)=c:=dq (by have:=AM j;grind);simp only[eQ];grind
theorem Ha(a b:Rat):∀ s,iM (λj=>eQ b j*eQ a (s-j)) (s+1)=eQ (a+b) s
 | 0=>by
  show 0+eQ b 0*eQ a 0=1;simp only[eQ];grind
 |s+1=>by
  have ih:=Ha a b s;have hp:=AM s;have key:iM (λj=>eQ b j*eQ a (s+1-j)) (s+2)*((s+1:Nat):Rat)=(a+b)*eQ (a+b) s:=by
   have e0:iM (λj=>eQ b j*eQ a (s+1-j)) (s+2)*((s+1:Nat):Rat)=iM (λj=>(j:Rat)*(eQ b j*eQ a (s+1-j))+eQ b j*(((s+1-j:Nat):Rat)*eQ a (s+1-j))) (s+2):=by
    rw[<-D6];refine qp _ λj hj=>?_
    have:((s+1:Nat):Rat)=(j:Rat)+((s+1-j:Nat):Rat):=by rw[<-dQ];congr 1;omega
    rw[this];grind
   rw[e0,Gt];have e1:iM (λj=>(j:Rat)*(eQ b j*eQ a (s+1-j))) (s+2)=b*eQ (a+b) s:=by
    rw[Yt,<-ih,<-Ba];have z:(((0:Nat):Rat))=0:=rfl;rw[z,fR,Rat.zero_add];refine qp _ λj hj=>?_
    have h1:=H9 b j;rw[show s+1-(j+1)=s-j by omega]
    grind
   have e2:iM (λj=>eQ b j*(((s+1-j:Nat):Rat)*eQ a (s+1-j))) (s+2)=a*eQ (a+b) s:=by
    rw[show s+2=(s+1)+1 by omega,iM,cU,<-ih,<-Ba];have z:(((0:Nat):Rat))=0:=rfl;rw[z,fR,Rat.mul_zero,Rat.add_zero];refine qp _ λj hj=>?_
    have h1:=H9 a (s-j);rw[show s+1-j=s-j+1 by omega]
    grind
   rw[e1,e2];grind
  have h2:=H9 (a+b) s;have h3:iM (λj=>eQ b j*eQ a (s+1-j)) (s+2)*((s+1:Nat):Rat)=eQ (a+b) (s+1)*((s+1:Nat):Rat):=by rw[key,h2]
  exact dR (eB (by rw[h3];exact bV) hp) (eB (by rw[h3];exact bV) hp)
theorem EA(c:Rat):∀ j,je (eQ c j)=eQ (je c) j
 | 0=>by simp only[eQ];decide
 |j+1=>by
  simp only[eQ];rw[yz,EA c j];congr 1;rw[cC,cC,yz];congr 1;have:=fw.2 (AM j);unfold je;rw[aS (bw this)]
def uJ(v:Rat):Nat->Rat
 | 0=>1
 |j+1=>uJ v j*v
theorem Wj(v:Rat)(i:Nat):∀ j,uJ v (i+j)=uJ v i*uJ v j
 | 0=>by simp only[uJ,bB];grind
 |j+1=>by
  show uJ v (i+j)*v=_;rw[Wj v i j,uJ];grind
theorem Wk{v:Rat}(h:0<=v):∀ j,0<=uJ v j
 | 0=>by simp only[uJ];decide
 |j+1=>bM (Wk h j) h
theorem Ls(c v:Rat):∀ j,eQ (c*v) j=eQ c j*uJ v j
 | 0=>by simp only[eQ,uJ];grind
 |j+1=>by
  simp only[eQ,uJ];rw[Ls c v j];simp only[cC];grind
theorem P3(q:Rat):∃ n:Nat,q<=(n:Rat):=by
 refine⟨q.ceil.toNat,?_⟩;have h1:q<=(q.ceil:Rat):=Rat.le_ceil;have h2:((q.ceil:Int):Rat)<=((q.ceil.toNat:Nat):Rat):=by
  rw[<-dO,fO];omega
 exact bA h1 h2
theorem Pa{z:Rat}{J:Nat}(hz:0<=z)(hJ:z*2<=(J:Rat)){m:Nat}(hm:J<=m):eQ z (m+1)*2<=eQ z m:=by
 have h0:=ve hz m;have h1:=H9 z m;have hp:=AM m;have LY:z*2<=((m+1:Nat):Rat):=bA hJ (cY.2 ae);apply eB (c:=((m+1:Nat):Rat)) _ hp;have h2:=cB LY h0
 grind
theorem Pb{z:Rat}{J:Nat}(hz:0<=z)(hJ:z*2<=(J:Rat)){m:Nat}(hm:J<=m):∀ d,iM (λi=>eQ z (m+i)) d+eQ z (m+d)*2<=eQ z m*2
 | 0=>by simp only[iM,bB];grind
 |d+1=>by
  have ih:=Pb hz hJ hm d;have h1:=Pa hz hJ (show J<=m+d by omega);rw[iM,show m+(d+1)=m+d+1 by omega]
  grind
theorem Yy{z:Rat}{J:Nat}(hz:0<=z)(hJ:z*2<=(J:Rat)):∀ r:Nat,eQ z (J+r)*((2^r:Nat):Rat)<=eQ z J
 | 0=> aj 
 |r+1=>by
  have ih:=Yy hz hJ r;have h1:=Pa hz hJ (show J<=J+r by omega);have hp:(0:Rat)<=((2^r:Nat):Rat):=cG;have h2:=b9 h1 hp;rw[show(2^(r+1):Nat)=2^r*2 from a6 _ _,cP,show J+(r+1)=J+r+1 by omega];have e:((2:Nat):Rat)=2:=rfl;rw[e];grind
theorem Yz{z ε:Rat}(hz:0<=z)(hε:0<ε):∃ m0,∀ m,m0<=m->∀ d,iM (λi=>eQ z (m+i)) d<=ε:=by
 obtain⟨J,hJ⟩:=P3 (z*2);obtain⟨r,hr⟩:=P3 (eQ z J*2/ε);refine⟨J+r,λm hm d=>?_⟩;obtain⟨t,rfl⟩:∃ t,m=J+t:=⟨m-J,ae⟩
 have h1:=Pb hz hJ (show J<=J+t by omega) d;have h2:=Yy hz hJ t;have h3:=ve hz (J+t+d);have h4:=ve hz (J+t);have su:(r:Rat)<=((2^t:Nat):Rat):=cY.2 (cX (bR (show r<=t by omega) Nat.lt_two_pow_self));have h5:eQ z J*2<=ε*((2^t:Nat):Rat):=by
  have h6:eQ z J*2/ε*ε=eQ z J*2:=dq aq;have h7:=b9 (bA hr su) (bw hε)
  grind
 have hp:(0:Rat)<((2^t:Nat):Rat):=fo.2 (aZ ag);have h8:eQ z (J+t)*2<=ε:=by
  apply eB (c:=((2^t:Nat):Rat)) _ hp
  grind
 grind
def MP(n:Nat)(M:QM):Nat->QM
 | 0=>xT
 |j+1=>qy n (MP n M j) M
section
variable {n:Nat} {M:QM}
theorem Kz(t:Rat):∀ j i l,TQ n M t j i l=eQ t j*MP n M j i l
 | 0,i,l=>by simp only[TQ,eQ,MP];grind
 |j+1,i,l=>by
  show t/((j+1:Nat):Rat)*iM (λq=>TQ n M t j i q*M q l) n=eQ t j*(t/((j+1:Nat):Rat))*iM (λq=>MP n M j i q*M q l) n;rw[qp n λq _=>show TQ n M t j i q*M q l=eQ t j*(MP n M j i q*M q l)by rw[Kz t j i q];grind,Ba]
  grind
theorem Ef(t:Rat)(i l:Nat):∀ N,SQ n M t N i l=iM (λj=>eQ t j*MP n M j i l) (N+1)
 | 0=>by simp only[SQ,iM,eQ,MP];grind
 |N+1=>by
  show SQ n M t N i l+TQ n M t (N+1) i l=_;rw[Ef t i l N,Kz];rfl
theorem ahm(A:QM)(i:Nat){l:Nat}(hl:l<n):qy n A xT i l=A i l:=by
 have:∀ m,iM (λq=>A i q*xT q l) m=if l<m then A i l else 0:=by
  intro m
  induction m with
  |zero=>simp[iM]
  |succ m ih=>
   rw[iM,ih];unfold xT;by_cases h1:l<m
   .rw [aS h1,aR (show ¬m=l by omega),aS (show l<m+1 by omega)];grind
   .by_cases h2:m=l
    .subst h2;rw[aR h1,aS rfl,aS (show m<m+1 by omega)];grind
    .rw [aR h1,aR h2,aR (show ¬l<m+1 by omega)];grind
 unfold qy;rw[this,aS hl]
theorem ahl(A B C:QM)(i l:Nat):qy n A (qy n B C) i l=qy n (qy n A B) C i l:=by
 unfold qy;have e1:∀ q,A i q*iM (λr=>B q r*C r l) n=iM (λr=>A i q*(B q r*C r l)) n:=λq=>(Ba _ _ n).symm
 have e2:∀ r,iM (λq=>A i q*B q r) n*C r l=iM (λq=>A i q*B q r*C r l) n:=λr=>(D6 _ _ n).symm
 rw[qp n λq _=>e1 q,qp (f:=λq=>iM (λq_1=>A i q_1*B q_1 q) n*C q l) n λr _=>e2 r,Gu];exact qp n λr _=>qp n λq _=> aq 
theorem Px(j:Nat):∀ k i l,l<n->qy n (MP n M j) (MP n M k) i l=MP n M (j+k) i l
 | 0,i,l,hl=>ahm _ i hl
 |k+1,i,l,hl=>by
  show qy n (MP n M j) (qy n (MP n M k) M) i l=qy n (MP n M (j+k)) M i l;rw[ahl];exact qp n λq hq=>by rw[Px j k i q hq]
theorem Py{v:Rat}(hv:0<=v)(h:Aa n M v):∀ j,Aa n (MP n M j) (uJ v j)
 | 0=>λi _=>(alC n i).1
 |j+1=>aky (Wk hv j) hv (Py hv h j) h
theorem akw(n:Nat)(M:QM):∃ v,0<=v/\Aa n M v:=by
 refine⟨iM (λi=>iM (λl=>je (M i l)) n) n,Co n λi _=>Co n λl _=>(mT _).1,λi hi=>?_⟩;have:∀ m,i<m->iM (λl=>je (M i l)) n<=iM (λi=>iM (λl=>je (M i l)) n) m:=by
  intro m hm
  induction m with
  |zero=>omega
  |succ m ih=>
   rw[iM];have h0:0<=iM (λl=>je (M m l)) n:=Co n λl _=>(mT _).1
   have h1:0<=iM (λi=>iM (λl=>je (M i l)) n) m:=Co m λi _=>Co n λl _=>(mT _).1
   by_cases hq:i=m
   .subst hq;grind
   .have:=ih ae;grind
 exact this n hi
theorem aip(a b:Rat)(N:Nat)(i:Nat){l:Nat}(hl:l<n):qy n (SQ n M b N) (SQ n M a N) i l=iM (λj=>iM (λk=>eQ b j*eQ a k*MP n M (j+k) i l) (N+1)) (N+1):=by
 unfold qy;have e1:∀ q,SQ n M b N i q*SQ n M a N q l=iM (λj=>iM (λk=>eQ b j*eQ a k*(MP n M j i q*MP n M k q l)) (N+1)) (N+1):=by
  intro q;rw[Ef,Ef,<-D6];refine qp _ λj _=>?_
  rw[<-Ba];exact qp _ λk _=> aq 
 rw[qp n λq _=>e1 q,Gu];refine qp _ λj _=>?_
 rw[Gu];refine qp _ λk _=>?_
 rw[<-Px j k i l hl,Ba];rfl
theorem amu(a b:Rat)(N:Nat)(i l:Nat):iM (λj=>iM (λk=>eQ b j*eQ a k*MP n M (j+k) i l) (N+1-j)) (N+1)=SQ n M (a+b) N i l:=by
 rw[J8 (λj k=>eQ b j*eQ a k*MP n M (j+k) i l),Ef];refine qp _ λs _=>?_
 rw[<-Ha,<-D6];exact qp _ λj hj=>by rw[show j+(s-j)=s by omega]
theorem Yi(g:Nat->Nat->Rat)(m:Nat):iM (λj=>iM (g j) m) m=iM (λj=>iM (g j) (m-j)) m+iM (λj=>iM (λk=>g j (m-j+k)) j) m:=by
 rw[<-Gt];refine qp _ λj hj=>?_
 rw[<-D7,show m-j+j=m by omega]
theorem aeR{v:Rat}(hv:0<=v)(h:Aa n M v)(a b:Rat)(N:Nat){i l:Nat}(hi:i<n)(hl:l<n):
 je (qy n (SQ n M b N) (SQ n M a N) i l-SQ n M (a+b) N i l)<=iM (λs=>eQ (je a*v+je b*v) (N+1+s)) (N+1):=by
 have hx:0<=je a*v:=bM (mT a).1 hv;have hy:0<=je b*v:=bM (mT b).1 hv;have e1:qy n (SQ n M b N) (SQ n M a N) i l=SQ n M (a+b) N i l+iM (λj=>iM (λk=>eQ b j*eQ a (N+1-j+k)*MP n M (j+(N+1-j+k)) i l) j) (N+1):=by
  have:=Yi (λj k=>eQ b j*eQ a k*MP n M (j+k) i l) (N+1);rw[amu,<-aip a b N i hl]at this;exact this
 have e2:qy n (SQ n M b N) (SQ n M a N) i l-SQ n M (a+b) N i l=iM (λj=>iM (λk=>eQ b j*eQ a (N+1-j+k)*MP n M (j+(N+1-j+k)) i l) j) (N+1):= aq ;rw[e2];have e3:je (iM (λj=>iM (λk=>eQ b j*eQ a (N+1-j+k)*MP n M (j+(N+1-j+k)) i l) j) (N+1))<=iM (λj=>iM (λk=>eQ (je b*v) j*eQ (je a*v) (N+1-j+k)) j) (N+1):=by
  refine bA (Cx _ _) (Cn _ λj _=>bA (Cx _ _) (Cn _ λk _=>?_));rw[yz,yz,EA,EA,Ls,Ls];have hr:=akv (Py hv h (j+(N+1-j+k))) hi hl;rw[Wj]at hr;have h1:=ve (mT b).1 j;have h2:=ve (mT a).1 (N+1-j+k);have h3:=cB hr (bM h1 h2)
  grind
 refine bA e3 ?_;have q1:iM (λj=>iM (λk=>eQ (je b*v) j*eQ (je a*v) k) (N+1)) (N+1)=iM (λj=>iM (λk=>eQ (je b*v) j*eQ (je a*v) k) (N+1-j)) (N+1)+iM (λj=>iM (λk=>eQ (je b*v) j*eQ (je a*v) (N+1-j+k)) j) (N+1):=
  Yi (λj k=>eQ (je b*v) j*eQ (je a*v) k) (N+1)
 have q2:iM (λj=>iM (λk=>eQ (je b*v) j*eQ (je a*v) k) (N+1-j)) (N+1)=iM (λs=>eQ (je a*v+je b*v) s) (N+1):=by
  rw[J8 (λj k=>eQ (je b*v) j*eQ (je a*v) k)];exact qp _ λs _=>Ha _ _ s
 have G0:∀ j k,0<=eQ (je b*v) j*eQ (je a*v) k:=λj k=>bM (ve hy j) (ve hx k)
 have q3:iM (λj=>iM (λk=>eQ (je b*v) j*eQ (je a*v) k) (N+1)) (N+1)<=iM (λs=>eQ (je a*v+je b*v) s) (N+1+(N+1)):=by
  rw[<-qp (f:=λs=>iM (λj=>eQ (je b*v) j*eQ (je a*v) (s-j)) (s+1)) _ λs _=>Ha _ _ s,<-J8 (λj k=>eQ (je b*v) j*eQ (je a*v) k)];refine bA (Cn _ λj hj=>Gv (λk=>G0 j k) (show N+1<=N+1+(N+1)-j by omega)) ?_;exact Gv (λj=>Co _ λk _=>G0 j k) ae 
 rw[D7 (λs=>eQ (je a*v+je b*v) s) (N+1) (N+1),q1,q2]at q3;have cancel:∀ A B C:Rat,A+B<=A+C->B<=C:=by intro A B C h;grind
 exact cancel _ _ _ q3
theorem aeS(n:Nat)(M:QM)(a b:Rat){ε:Rat}(hε:0<ε):∃ N0,∀ N,N0<=N->∀ i l,i<n->l<n->je (qy n (SQ n M b N) (SQ n M a N) i l-SQ n M (a+b) N i l)<=ε:=by
 obtain⟨v,hv,h⟩:=akw n M;have hz:0<=je a*v+je b*v:=by
  have hx:0<=je a*v:=bM (mT a).1 hv;have hy:0<=je b*v:=bM (mT b).1 hv
  grind
 obtain⟨m0,h0⟩:=Yz hz hε;exact⟨m0,λN hN i l hi hl=>bA (aeR hv h a b N hi hl) (h0 (N+1) ae (N+1))⟩
theorem ZD(N:Nat)(i l:Nat):SQ n M 0 N i l=xT i l:=by
 induction N with
 |zero=>rfl
 |succ N ih=>
  show SQ n M 0 N i l+TQ n M 0 (N+1) i l=_;rw[ih,Kz];simp only[eQ,cC];grind
end
def pv(f:Nat->Rat)(X:Iv):Prop:=∀ ε,0<ε->∃ N0,∀ N,N0<=N->∃ r,X.jU r/\je (f N-r)<=ε
theorem pv.NQ{f:Nat->Rat}{X:Iv}{k:Nat}(h:∀ N,k<=N->X.jU (f N)):pv f X:=λε hε=>
 ⟨k,λN hN=>⟨f N,h N hN,by rw[Rat.sub_self,PL];exact bw hε⟩⟩
theorem pv.all{f:Nat->Rat}{X:Iv}(h:X.all=true):pv f X:=pv.NQ (k:=0) λ_ _=>.inl h
theorem pv.shift{f g:Nat->Rat}{X:Iv}(h:pv f X)(k:∀ ε,0<ε->∃ N0,∀ N,N0<=N->je (g N-f N)<=ε):pv g X:=λε hε=>by
 obtain⟨N1,h1⟩:=h (ε/2) aq;obtain⟨N2,h2⟩:=k (ε/2) aq;refine⟨max N1 N2,λN hN=>?_⟩;obtain⟨r,hr,hd⟩:=h1 N ae;have hg:=h2 N ae;refine⟨r,hr,?_⟩;have:=PK (g N-f N) (f N-r);rw[show g N-f N+(f N-r)=g N-r by grind]at this
 grind
def EQ(c:Rat)(N:Nat):Rat:=iM (eQ c) (N+1)
theorem ahV(j:Nat):MP 1 (λ_ _=>1) j 0 0=1:=by
 induction j with
 |zero=>rfl
 |succ j ih=>
  show iM (λq=>MP 1 (λ_ _=>1) j 0 q*1) 1=1;simp only[iM];rw[ih];grind
theorem GR(c:Rat)(N:Nat):SQ 1 (λ_ _=>1) c N 0 0=EQ c N:=by
 rw[Ef];exact qp _ λj _=>by rw[ahV];grind
theorem Kt(a b:Rat){ε:Rat}(hε:0<ε):∃ N0,∀ N,N0<=N->je (EQ (a+b) N-EQ a N*EQ b N)<=ε:=by
 obtain⟨N0,h0⟩:=aeS 1 (λ_ _=>1) a b hε;refine⟨N0,λN hN=>?_⟩;have:=h0 N hN 0 0 ag ag;rw[show qy 1 (SQ 1 (λ_ _=>1) b N) (SQ 1 (λ_ _=>1) a N) 0 0=EQ a N*EQ b N by
  show iM (λq=>SQ 1 (λ_ _=>1) b N 0 q*SQ 1 (λ_ _=>1) a N q 0) 1=_;simp only[iM];rw[GR,GR];grind,GR]at this
 obtain⟨_,a2,a3,_⟩:=mT (EQ a N*EQ b N-EQ (a+b) N);exact yy aq aq 
theorem Zu(N:Nat):EQ 0 N=1:=by
 rw[<-GR,ZD];rfl
theorem P7{x:Iv}{r s:Rat}(hx:x.ic)(h:x.jU r)(hs:je s<=je r):(qT x).jU s:=by
 unfold qT;cases xa:x.all
 .obtain ⟨h1,h2⟩:=h.j9 xa
  obtain⟨m1,m2,_⟩:=BX hx.q;obtain⟨_,a2,a3,a4⟩:=mT r;obtain⟨_,b2,b3,_⟩:=mT s;have hr:je r<=(mD x).q:= aq ;refine .inr ⟨?_,?_⟩
  .show (iF (mD x)).q<=s
   rw[lX];grind
  .show s<=(mD x).q
   grind
 .rw [aS rfl];exact .inl xa
theorem Ed{a b:Int}(h:a<=b):P2 a<=P2 b:=by
 rw[Ee h];have h1:(1:Rat)<=((2^(b-a).toNat:Nat):Rat):=by
  have:=cY.2 (Nat.one_le_two_pow (n:=(b-a).toNat));exact this
 have:=b9 h1 (bw (ni a))
 grind
theorem Kg{i:Nat}(h:i<2):i=0\/i=1:= ae 
def Zv:Dy:=⟨false,1014047155841371404857783918912611814895143950022408150448898879701903863171748812343190420115852101928445847465915947005,-398⟩
def Zw:Dy:=⟨false,2028094311682742809715567837825223629790287900044816300897797759403807726343497624686380840231704203856891694931831894109,-399⟩
def HF:Iv:=⟨Zv,Zw,false⟩
theorem after{N:Nat}(h:100<=N):∃ d,N=100+d:=⟨N-100,ae⟩
def zq(k:Int):Rat×Rat:=if k%4=0 then(1,0)else if k%4=1 then(0,1)else if k%4=2 then(-1,0)else(0,-1)
def lF(r:Iv)(p:Nat):Nat->Iv
 | 0=>jF 1
 |j+1=>jT (iO (lF r p j) r p) (jF ((j+1:Nat):Int)) p
def OQ(r:Iv)(p j:Nat):Iv:=if 2<=j%4 then pV (lF r p j)else lF r p j
def JX(r:Iv)(p:Nat):Nat->Iv
 | 0=>jF 0
 |j+1=>if(j+1)%2=1 then jl (JX r p j) (OQ r p (j+1)) p else JX r p j
theorem qO(n:Int):(pW n).q=P2 n:=by unfold pW;rw[qP];simp
theorem vZ{r:Iv}{p:Nat}(_hr:r.ic)(im:8<=p)(ia:p<=512):∀ j,(lF r p j).ic
 | 0=>B3 1 ag 
 |j+1=>wD _ _ ae ae 
theorem akR{r:Iv}{p:Nat}(hr:r.ic)(im:8<=p)(ia:p<=512)(j:Nat):(OQ r p j).ic:=by
 unfold OQ;split
 .exact B2 (vZ hr im ia j)
 .exact vZ hr im ia j
theorem XT{r:Iv}{p:Nat}(hr:r.ic)(im:8<=p)(ia:p<=512):∀ j,(JX r p j).ic
 | 0=>B3 0 ag 
 |j+1=>by
  unfold JX;split
  .exact si (XT hr im ia j) (akR hr im ia _) ae ae 
  .exact XT hr im ia j
theorem OR{r:Iv}{p:Nat}(hr:r.ic)(im:8<=p)(ia:p<=512){ρ:Rat}(h:r.jU ρ):∀ j,j<4294967296->(lF r p j).jU (eQ ρ j)
 | 0,_=>zw 1
 |j+1,hj=>by
  have e:eQ ρ (j+1)=eQ ρ j*ρ/((j+1:Nat):Rat):=by simp only[eQ,cC];grind
  rw[e];exact Ht (qj _ _ ae ae) (NK (j+1) hj) ae ae (Jo (vZ hr im ia j) hr ae ae (OR hr im ia h j ae) h) (VZ (j+1))
theorem XU{r:Iv}{p:Nat}:∀ {j d:Nat},(lF r p (j+d)).all=false->(lF r p j).all=false
 |_,0,h=>h
 |j,d+1,h=>by
  apply XU (d:=d);cases ha:(lF r p (j+d)).all
  .rfl
  .exfalso
   have:lF r p (j+(d+1))=ig:=by
    show jT (iO (lF r p (j+d)) r p) _ p=_;rw[DE p (.inl ha),Bo p (.inl rfl)]
   rw[this]at h;cases h
def px(n:Int):Iv:=⟨iF (pW n),pW n,false⟩
theorem CE{n:Int}{r:Rat}:(px n).jU r ↔ -P2 n<=r/\r<=P2 n:=by
 unfold Iv.jU px;simp only[bq,false_or];rw[lX,qO]
theorem z8{p:Nat}(hp:1<=p){n:Int}(h1:-1000<=n)(h2:n<=1000):G p (P2 n):=.inl ⟨1,n,by rw[u5];exact hp,ae,by rw[u5];omega,aj⟩
theorem Em{p:Nat}{S:Rat->Prop}{X:Iv}(h:zZ p S X)(hp:1<=p){n:Int}(h1:-1000<=n)(h2:n<=1000)(hs:∀ r,S r -> -P2 n<=r/\r<=P2 n):Sub X (px n):=by
 obtain⟨a,b,c⟩:=h.xf _ _ (z8 hp h1 h2).neg (z8 hp h1 h2) hs;refine .inr ⟨a,?_,?_⟩
 .show (iF (pW n)).q<=_
  rw[lX,qO];exact b
 .show _<=(pW n).q
  rw[qO];exact c
theorem PM{a b u v:Rat}(h1:-u<=a)(h2:a<=u)(h3:-v<=b)(h4:b<=v):-(u*v)<=a*b/\a*b<=u*v:=by
 have ha:je a<=u:=yy h2 aq;have hb:je b<=v:=yy h4 aq;have hm:=yz a b;have h0:=(mT b).1;have hu:0<=u:=bA (mT a).1 ha;have m1:=b9 ha h0;have m2:=cB hb hu;obtain⟨_,c2,c3,_⟩:=mT (a*b);constructor<;>grind
theorem Te(j:Nat):P2 (-(j:Int))*P2 (-1)=P2 (-((j+1:Nat):Int)):=by
 rw[<-qq];congr 1;omega
theorem acs{a u:Rat}{n:Nat}(h1:-u<=a)(h2:a<=u):-u<=a/((n+1:Nat):Rat)/\a/((n+1:Nat):Rat)<=u:=by
 have hp:=AM n;have SM:(1:Rat)<=((n+1:Nat):Rat):=by
  have:=cY (a:=1) (b:=n+1);exact this.2 ae 
 have e:=dq (a:=a) (b:=((n+1:Nat):Rat)) aq;have hu:0<=u:= aq ;generalize a/((n+1:Nat):Rat)=x at *
 generalize ((n+1:Nat):Rat)=c at *
 constructor
 .apply dr.1
  intro iE;have m:=dU iE hp;have m2:=cB SM hu
  grind
 .apply dr.1
  intro iE;have m:=dU iE hp;have m2:=cB SM hu
  grind
theorem XW{y:Iv}(hy:y.ic)(h:Sub y (px (-1))){p:Nat}(im:8<=p)(ia:p<=512):∀ j,j<=900->Sub (lF y p j) (px (-(j:Int)))
 | 0,_=>by
  have e:(jF 1).lo.q=1/\(jF 1).hi.q=1/\(jF 1).all=false:=VY 1;refine .inr ⟨e.2.2,?_,?_⟩
  .show (iF (pW _)).q<=_
   rw[lX,qO,show(lF y p 0).lo.q=1 from e.1];decide +kernel
  .show _<=(pW _).q
   rw[qO,show(lF y p 0).hi.q=1 from e.2.1];decide +kernel
 |j+1,hj=>by
  have ih:=XW hy h im ia j ae;have vT:=vZ hy im ia j;obtain⟨ta,_⟩:=ih.qN rfl;obtain⟨ya,_⟩:=h.qN rfl;have B:=FJ vT hy ta ya (show 1<=p by omega) ae;have s1:Sub (iO (lF y p j) y p) (px (-((j+1:Nat):Int))):=Em B ae ae ae (by
   rintro r ⟨a,b,ha,hb,rfl⟩;obtain⟨a1,a2⟩:=CE.1 (ih.jU ha);obtain⟨b1,b2⟩:=CE.1 (h.jU hb);rw[<-Te];exact PM a1 a2 b1 b2)
  have vm:(iO (lF y p j) y p).ic:=qj _ _ ae ae;obtain⟨ma,_⟩:=s1.qN rfl;have vn:=NK (j+1) ae;have hs:lK (jF ((j+1:Nat):Int))≠0:=by rw[ahT ae];decide
  exact Em (CP vm vn ma hs (show 1<=p by omega) ae) ae ae ae (by
   rintro r ⟨a,b,ha,hb,rfl⟩;obtain⟨a1,a2⟩:=CE.1 (s1.jU ha);obtain⟨b1,b2⟩:=hb.j9 rfl;have e:=VY (j+1);rw[e.1]at b1;rw[e.2.1]at b2;rw[show b=((j+1:Nat):Rat)from dR b2 b1];exact acs a1 a2)
def oJ(x:Iv)(p:Nat):Bool:=x.all||(decide ((mD x).m=0)||decide ((mD x).iw <= -(p:Int)))
theorem YP{d:Dy}(hm:d.m≠0){n:Int}(h:je d.q<=P2 n):d.iw<=n+1:=by
 apply bG;intro iE;have hT:d.iw=(ie d.m:Int)+d.e:=by unfold Dy.iw;rw[aR hm]
 have hb:0<ie d.m:=sA.2 (by rw[bO];omega);have h1:2^(ie d.m-1)<=d.m:=sA.1 ae;have h2:((2^(ie d.m-1):Nat):Rat)<=(d.m:Rat):=cY.2 h1;have h3:=b9 h2 (bw (ni d.e));rw[<-uY,<-qq,show((ie d.m-1:Nat):Int)+d.e=d.iw-1 by rw[hT];omega]at h3;have h4:je d.q=(d.m:Rat)*P2 d.e:=by
  have h0:0<=(d.m:Rat)*P2 d.e:=bM cG (bw (ni _));rw[qB];unfold je;cases d.neg
  .simp only[bq,a7];rw[aS h0]
  .simp only[bn]
   split<;>grind
 have h5:=Ed (show n+1<=d.iw-1 by omega);have h6:P2 (n+1)=P2 n*2:=by rw[qq];congr 1
 have:=ni n
 grind
theorem YL{x:Iv}(hx:x.ic){p:Nat}(h:Sub x (px (-((p+1:Nat):Int)))):oJ x p=true:=by
 unfold oJ;cases ha:x.all
 .by_cases hm:(mD x).m=0
  .rw [aT hm];rfl
  .obtain ⟨_,k1,k2⟩:=h.qN rfl
   obtain⟨m1,m2,m3⟩:=BX hx.q;replace k1:(iF (pW (-((p+1:Nat):Int)))).q<=x.lo.q:=k1;replace k2:x.hi.q<=(pW (-((p+1:Nat):Int))).q:=k2;rw[lX,qO]at k1;rw[qO]at k2;have hq:=hx.q;have pZ:=ni (-((p+1:Nat):Int));generalize hu:P2 (-((p+1:Nat):Int))=u at *
   have hle:je (mD x).q<=u:=yy (by rcases m3 with m3|m3<;>grind) (by rcases m3 with m3|m3<;>grind);have:=YP hm (hu▸hle);rw[aT (show(mD x).iw <= -(p:Int)by omega)];simp
 .rfl
theorem XV{y:Iv}(h:y.all=true)(p:Nat):lF y p 1=ig:=by
 show jT (iO (jF 1) y p) _ p=_;rw[DE p (.inr h),Bo p (.inl rfl)]
theorem adF{y:Iv}(hy:y.ic)(h:y.all=true\/Sub y (px (-1))){p:Nat}(im:8<=p)(ia:p<=512):∃ N,1<=N/\N<=1000/\(∀ x,1<=x->x<N->oJ (lF y p x) p=false)/\oJ (lF y p N) p=true:=by
 have ex:∃ x,x<900/\decide (1<=x/\oJ (lF y p x) p=true)=true:=by
  rcases h with h|h
  .exact ⟨1,ae,aT ⟨ae,by rw[XV h];rfl⟩⟩
  .exact ⟨p+1,ae,aT ⟨ae,YL (vZ hy im ia _) (XW hy h im ia (p+1) ae)⟩⟩
 obtain⟨N,n1,n2,n3⟩:=qx (p:=λx=>decide (1<=x/\oJ (lF y p x) p=true)) ex;have n2':=ck n2;refine⟨N,n2'.1,ae,λx h1 h2=>?_,n2'.2⟩;have:=fz (n3 x h2);cases hc:oJ (lF y p x) p
 .rfl
 .exact absurd ⟨h1,hc⟩ this
def tz(y:Iv)(p:Nat):Nat->Iv
 | 0=>jF 1
 |j+1=>jl (tz y p j) (lF y p (j+1)) p
def yK(y:Iv)(p N:Nat):Iv:=jl (tz y p N) (qT (lF y p N)) p
theorem CR{y:Iv}(hy:y.ic){p:Nat}(im:8<=p)(ia:p<=512):∀ j,(tz y p j).ic
 | 0=>B3 1 ag 
 |j+1=>si (CR hy im ia j) (vZ hy im ia _) ae ae 
theorem adE{y:Iv}(hy:y.ic){p:Nat}(im:8<=p)(ia:p<=512)(N:Nat):(yK y p N).ic:=si (CR hy im ia N) (CC (vZ hy im ia N)) ae ae 
def lR(x:Iv)(p:Nat):Iv:=if x.all then ig else kI (jh x.lo p false) (jx x.lo p false) (jh x.hi p true) (jx x.hi p true)
def uc(a b:Iv):Iv:=if a.all||b.all then ig else⟨a.lo,b.hi,false⟩
theorem DX{x:Iv}(hx:x.ic){p:Nat}(hp:1<=p)(ia:p<=4096):(lR x p).ic:=by
 unfold lR;cases xa:x.all
 .obtain ⟨c1,c2⟩:=hx.wB
  simp only[bq,a7];unfold kI;split
  .exact mi
  .rename_i he
   have A:=tV c1 hp ia;have B:=uM c2 hp ia;refine .inr ⟨rfl,xj _ hp ia _,xj _ hp ia _,?_⟩;rw[po];exact bA (A.1 ae).2 (bA hx.q (B.1 ae).2)
 .exact mi
theorem Gm{x:Iv}(hx:x.ic){p:Nat}(hp:1<=p)(ia:p<=4096){r:Rat}(h:x.jU r):(lR x p).jU r:=by
 unfold lR;cases xa:x.all
 .obtain ⟨c1,c2⟩:=hx.wB
  obtain⟨h1,h2⟩:=h.j9 xa;simp only[bq,a7];unfold kI;split
  .exact .inl rfl
  .rename_i he
   have A:=tV c1 hp ia;have B:=uM c2 hp ia;exact .inr ⟨bA (A.1 ae).2 h1,bA h2 (B.1 ae).2⟩
 .exact .inl rfl
theorem akt{x:Iv}(hx:x.ic){p:Nat}(hp:1<=p)(ia:p<=4096){n:Int}(h1:-1000<=n)(h2:n<=1000)(h:Sub x (px n)):Sub (lR x p) (px n):=by
 obtain⟨xa,k1,k2⟩:=h.qN rfl;replace k1:(iF (pW n)).q<=x.lo.q:=k1;replace k2:x.hi.q<=(pW n).q:=k2;rw[lX,qO]at k1;rw[qO]at k2;obtain⟨c1,c2⟩:=hx.wB;have A:=(tV c1 hp ia).2 _ (z8 hp h1 h2).neg k1;have B:=(uM c2 hp ia).2 _ (z8 hp h1 h2) k2;unfold lR kI;rw[xa];simp only[bq,a7];rw[aR ae];refine .inr ⟨rfl,?_,?_⟩
 .show (iF (pW n)).q<=_
  rw[lX,qO];exact A.2
 .show _<=(pW n).q
  rw[qO];exact B.2
theorem agO{f g:Nat->Rat}{A B:Iv}(hA:pv f A)(hB:pv g B)(h:∀ ε,0<ε->∃ N0,∀ N,N0<=N->f N<=g N+ε)(aa:A.all=false)(ba:B.all=false):A.lo.q<=B.hi.q:=by
 apply dr.1;intro iE;obtain⟨ε,hε⟩:∃ ε,ε=(A.lo.q-B.hi.q)/4:=⟨_,rfl⟩
 have h0:0<ε:=by rw[hε];grind
 obtain⟨N1,h1⟩:=hA ε h0;obtain⟨N2,h2⟩:=hB ε h0;obtain⟨N3,h3⟩:=h ε h0;obtain⟨r,hr,hd⟩:=h1 (max N1 (max N2 N3)) ae;obtain⟨s,hs,he⟩:=h2 (max N1 (max N2 N3)) ae;have h4:=h3 (max N1 (max N2 N3)) ae;obtain⟨r1,r2⟩:=hr.j9 aa;obtain⟨s1,s2⟩:=hs.j9 ba;obtain⟨_,a2,a3,_⟩:=mT (f (max N1 (max N2 N3))-r);obtain⟨_,b2,b3,_⟩:=mT (g (max N1 (max N2 N3))-s)
 grind
theorem Zt{c:Rat}(h:0<=c)(N:Nat):1<=EQ c N:=by
 have:=Gv (f:=eQ c) (λi=>ve h i) (show 1<=N+1 by omega);have e:iM (eQ c) 1=1:=by show 0+1=1;grind
 unfold EQ;rw[e]at this;exact this
theorem Zs(c:Rat){ε:Rat}(hε:0<ε):∃ N0,∀ N,N0<=N -> -ε<=EQ c N:=by
 obtain⟨N0,h0⟩:=Kt (c/2) (c/2) hε;rw[show c/2+c/2=c by grind]at h0;refine⟨N0,λN hN=>?_⟩;have h:=h0 N hN;have hs:0<=EQ (c/2) N*EQ (c/2) N:=by
  by_cases k:0<=EQ (c/2) N
  .exact bM k k
  .have:=bM (show 0 <= -EQ (c/2) N by grind) (show 0 <= -EQ (c/2) N by grind)
   grind
 obtain⟨_,a2,a3,_⟩:=mT (EQ c N-EQ (c/2) N*EQ (c/2) N)
 grind
theorem Zp{c:Rat}(h:0<=c):∃ M:Rat,0<M/\∀ N,EQ c N<=M:=by
 obtain⟨m0,h0⟩:=Yz h (show(0:Rat)<1 by decide);have hs:0<=iM (eQ c) m0:=by
  have:=Gv (f:=eQ c) (λi=>ve h i) (bN m0);exact this
 refine⟨iM (eQ c) m0+1,aq,λN=>?_⟩;unfold EQ;by_cases hN:m0<=N+1
 .obtain ⟨d,hd⟩:∃ d,N+1=m0+d:=⟨N+1-m0,ae⟩
  rw[hd,D7];have:=h0 m0 (aV _) d
  grind
 .have:=Gv (f:=eQ c) (λi=>ve h i) (show N+1<=m0 by omega)
  grind
theorem Zr{a b:Rat}(h:a<=b){ε:Rat}(hε:0<ε):∃ N0,∀ N,N0<=N->EQ a N<=EQ b N+ε:=by
 have hd:0<=b-a:= aq ;obtain⟨N1,h1⟩:=Kt a (b-a) (show 0<ε/2 by grind);rw[show a+(b-a)=b by grind]at h1;obtain⟨M,sU,hM⟩:∃ M:Rat,0<M/\∀ N,EQ (b-a) N<=M:=Zp hd;obtain⟨N2,h2⟩:=Zs a (show 0<ε/(2*M)by rw[cC];exact dP hε (fw.2 aq));refine⟨max N1 N2,λN hN=>?_⟩;have k1:=h1 N ae;have k2:=h2 N ae;have e:ε/(2*M)*M=ε/2:=by
  have:=dq (a:=ε) (b:=2*M) aq 
  grind
 have k3:=Zt hd N;have k4:=hM N;obtain⟨_,a2,a3,_⟩:=mT (EQ b N-EQ a N*EQ (b-a) N);generalize EQ a N=x at *
 generalize EQ (b-a) N=y at *
 generalize EQ b N=z at *
 generalize ε/(2*M)=δ at *
 have m1:=bM (show 0<=x+δ by grind) (show 0<=y-1 by grind);have hδ:0<=δ:=by
  apply dr.1;intro iE;have:=dU iE sU
  grind
 have m2:=cB (show y-1<=M by grind) hδ
 grind
theorem Sb{y:Iv}{r:Rat}(hy:y.ic)(h:y.jU r){p:Nat}(im:8<=p)(ia:p<=512):∀ j,j<4294967296->(tz y p j).jU (EQ r j)
 | 0,_=>by
  have:EQ r 0=1:=by unfold EQ;simp only[iM,eQ];grind
  rw[this];exact zw 1
 |j+1,hj=>yA (CR hy im ia j) (vZ hy im ia (j+1)) ae ae (Sb hy h im ia j ae) (OR hy im ia h (j+1) hj)
theorem adB{y:Iv}(h:y.all=true){p N:Nat}(hN:1<=N):(yK y p N).all=true:=by
 have ht:(lF y p N).all=true:=by
  cases hc:(lF y p N).all
  .obtain ⟨d,rfl⟩:∃ d,N=1+d:=⟨N-1,ae⟩
   have:=XU hc;rw[XV h]at this;cases this
  .rfl
 unfold yK;rw[Cy p (.inr (by unfold qT;rw[ht];simpa using ht))];rfl
theorem adC{y:Iv}{r:Rat}(hy:y.ic)(h:y.jU r)(hr:je r*2<=1){p:Nat}(im:8<=p)(ia:p<=512){N:Nat}(hN:1<=N)(sk:N<=1000)(M:Nat)(hM:N<=M):(yK y p N).jU (EQ r M):=by
 obtain⟨d,rfl⟩:∃ d,M=N+d:=⟨M-N,ae⟩
 have e1:EQ r (N+d)=EQ r N+iM (λi=>eQ r (N+1+i)) d:=by
  unfold EQ;rw[show N+d+1=N+1+d by omega,D7]
 have hz:=(mT r).1;have t:=Pb hz (J:=1) (by exact hr) (show 1<=N+1 by omega) d;have p0:=ve hz (N+1+d);have b1:je (iM (λi=>eQ r (N+1+i)) d)<=iM (λi=>eQ (je r) (N+1+i)) d:=by
  have:=Cx (λi=>eQ r (N+1+i)) d;rwa[qp d λi _=>EA r (N+1+i)]at this
 have e3:eQ (je r) (N+1)*2<=eQ (je r) N:=Pa hz (J:=1) (by exact hr) (show 1<=N by omega);rw[e1];refine yA (CR hy im ia N) (CC (vZ hy im ia N)) ae ae (Sb hy h im ia N ae) (P7 (vZ hy im ia N) (OR hy im ia h N ae) ?_);rw[EA];grind
theorem adD{y:Iv}{r:Rat}(hy:y.ic)(h:y.jU r)(hb:y.all=true\/Sub y (px (-1))){p:Nat}(im:8<=p)(ia:p<=512){N:Nat}(hN:1<=N)(sk:N<=1000):pv (EQ r) (yK y p N):=by
 rcases hb with hb|hb
 .exact pv.all (adB hb hN)
 .refine pv.NQ (k:=N) λM hM=>adC hy h ?_ im ia hN sk M hM
  obtain⟨b1,b2⟩:=CE.1 (hb.jU h);have e:P2 (-1)=1/2:= ar ;rw[e]at b1 b2;have:=yy (x:=r) (b:=1/2) aq aq 
  grind
def oF(x:Iv)(p:Nat):Iv:=if(iZ x).all then ig else kI (jh (kO (iZ x).lo (iZ x).lo) p false) (jx (kO (iZ x).lo (iZ x).lo) p false) (jh (kO (iZ x).hi (iZ x).hi) p true) (jx (kO (iZ x).hi (iZ x).hi) p true)
theorem PJ{x:Iv}(xa:x.all=false):0<=(iZ x).lo.q:=by
 unfold iZ;rw[xa];show 0<=(nu x).q;unfold nu;split
 .rw [rk];exact bV
 .obtain ⟨_,_,m⟩:=B9 (lh x.lo) (lh x.hi)
  rcases m with m|m<;>rw[m]
  .exact (zC x.lo).1
  .exact (zC x.hi).1
theorem Ad(x:Iv):(iZ x).all=x.all:=by unfold iZ;cases h:x.all<;>simp[h,ig]
theorem OZ{x:Iv}(hx:x.ic){p:Nat}(hp:1<=p)(ia:p<=4096){r:Rat}(h:x.jU r):(oF x p).jU (r*r):=by
 unfold oF;rw[Ad];cases xa:x.all
 .simp only[bq,a7]
  obtain⟨s,hs,h0,e⟩:∃ s,(iZ x).jU s/\0<=s/\r*r=s*s:=by
   by_cases hr:0<=r
   .exact ⟨r,GW hx h (.inl ⟨rfl,hr⟩),hr,rfl⟩
   .exact ⟨-r,GW hx h (.inr ⟨rfl,aq⟩),aq,aq⟩
  have hl:=PJ xa;have ya:(iZ x).all=false:=by rw[Ad];exact xa
  obtain⟨s1,s2⟩:=hs.j9 ya;rw[e];unfold kI;split
  .exact .inl rfl
  .rename_i he
   have A:=tV (tn (iZ x).lo (iZ x).lo) hp ia;have B:=uM (tn (iZ x).hi (iZ x).hi) hp ia;rw[vS]at A B;have a1:=(A.1 ae).2;have b1:=(B.1 ae).2;refine .inr ⟨?_,?_⟩
   .have m1:=b9 s1 hl
    have m2:=cB s1 h0;show _<=s*s;exact bA a1 (bA m1 (by rw[fu s];rw[fu (iZ x).lo.q s];exact m2))
   .have m1:=b9 s2 h0
    have m2:=cB s2 (bA h0 s2);exact bA (bA m1 m2) b1
 .exact .inl rfl
theorem J5{x:Iv}(hx:x.ic){p:Nat}(hp:1<=p)(ia:p<=4096):(oF x p).ic:=by
 cases xa:x.all
 .have h1:=OZ hx hp ia hx.xG
  unfold oF at h1 ⊢;rw[Ad,xa]at h1 ⊢;simp only[bq,a7]at h1 ⊢;unfold kI at h1 ⊢;split
  .exact mi
  .rename_i he
   rw[aR he]at h1;obtain⟨h2,h3⟩:=h1.j9 rfl;refine .inr ⟨rfl,xj _ hp ia _,xj _ hp ia _,?_⟩;rw[po];exact bA h2 h3
 .unfold oF
  rw[Ad,xa];exact mi
theorem pv.sqr{f:Nat->Rat}{X:Iv}(hx:X.ic)(h:pv f X){p:Nat}(hp:1<=p)(ia:p<=4096):pv (λN=>f N*f N) (oF X p):=by
 cases xa:X.all
 .intro ε hε
  obtain⟨B,hB⟩:∃ B,B=je X.lo.q+je X.hi.q+1:=⟨_,rfl⟩
  have a0:=mT X.lo.q;have b0:=mT X.hi.q;have hB1:1<=B:= aq ;have LW:0<2*B:= aq ;obtain⟨δ,hδ⟩:∃ δ,δ=min 1 (ε/(2*B)):=⟨_,rfl⟩
  have hεB:0<ε/(2*B):=by rw[cC];exact dP hε (fw.2 LW)
  have Uo:0<δ:=by rw[hδ];grind
  have hδ1:δ<=1:=by rw[hδ];grind
  have hδ2:δ*(2*B)<=ε:=by
   have h1:δ<=ε/(2*B):=by rw[hδ];grind
   have h2:=b9 h1 (bw LW);rwa[dq aq]at h2
  obtain⟨N0,h0⟩:=h δ Uo;refine⟨N0,λN hN=>?_⟩;obtain⟨r,hr,hd⟩:=h0 N hN;refine⟨r*r,OZ hx hp ia hr,?_⟩;obtain⟨r1,r2⟩:=hr.j9 xa;rw[show f N*f N-r*r=(f N-r)*(f N+r)by grind,yz];have hs:je (f N+r)<=2*B:=by
   obtain⟨_,c2,c3,_⟩:=mT (f N-r);exact yy aq aq 
  have h3:=cB hs (mT (f N-r)).1;have h4:=b9 hd (bw LW)
  grind
 .exact pv.all (by unfold oF;rw[Ad,xa];rfl)
theorem Zq(r:Rat):∀ ε,0<ε->∃ N0,∀ N,N0<=N->je (EQ r N-EQ (r*P2 (-1)) N*EQ (r*P2 (-1)) N)<=ε:=by
 intro ε hε;have e:r*P2 (-1)+r*P2 (-1)=r:=by
  have:P2 (-1)=1/2:= ar ;rw[this];grind
 have:=Kt (r*P2 (-1)) (r*P2 (-1)) hε;rwa[e]at this
theorem agN{r:Rat}{X:Iv}(hx:X.ic)(h:pv (EQ (r*P2 (-1))) X){p:Nat}(hp:1<=p)(ia:p<=4096):pv (EQ r) (oF X p):=(h.sqr hx hp ia).shift (Zq r)
theorem akQ{y:Iv}{n:Int}(h:Sub y (px n)):(mS y (-1)).all=true\/Sub (mS y (-1)) (px (n-1)):=by
 obtain⟨ya,k1,k2⟩:=h.qN rfl;replace k1:(iF (pW n)).q<=y.lo.q:=k1;replace k2:y.hi.q<=(pW n).q:=k2;rw[lX,qO]at k1;rw[qO]at k2;unfold mS kI;rw[ya];simp only[bq,a7];split
 .exact .inl rfl
 .rename_i he
  have e:P2 (n-1)=P2 n*P2 (-1):=by rw[<-qq];congr 1
  refine .inr (.inr ⟨rfl,?_,?_⟩)
  .show (iF (pW (n-1))).q<=(s8 y.lo (-1)).q
   rw[lX,qO,A5 ae,e,<-fQ,vK];exact k1
  .show (s8 y.hi (-1)).q<=(pW (n-1)).q
   rw[qO,A5 ae,e,vK];exact k2
end Go.Proofs.YtkjkcjhacddojaaGreatDoor
