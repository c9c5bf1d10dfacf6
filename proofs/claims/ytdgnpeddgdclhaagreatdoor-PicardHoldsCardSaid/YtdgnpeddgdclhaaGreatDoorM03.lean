/- Lemmas that the last file uses. -/
import Derived.Test.YtdgnpeddgdclhaaGreatDoorM02
set_option linter.unusedSimpArgs false
set_option linter.unusedVariables false
set_option linter.defProp false
set_option maxHeartbeats 4000000
namespace Go.Proofs.YtdgnpeddgdclhaaGreatDoor
open Go.RowKit Fp Pu
def UQ(a b:List Nat)(x:Nat):PS:=⟨67,false,[(20,.e (iP x)),(19,.e (iP a.length)),(18,.e (gX a)),(5,.own 17),(1,.e (gX b))],[(17,.row false 79 (a.length+b.length) 1 (jb (lF a b x)))]⟩
def UR(a b:List Nat)(x:Nat)(k:Nat):PS:=⟨67,false,[(27,.e (iP k)),(26,.e (iP b.length)),(25,.e (gX b)),(8,.e (.v (.int .u64 (((mV (a.getD x 0) x b (lF a b x) k).2:Nat):Int)))),(7,.e (.v (.int .u32 (a.getD x 0:Int)))),(6,.e (iP x)),(20,.e (iP x)),(19,.e (iP a.length)),(18,.e (gX a)),(5,.own 17),(1,.e (gX b))],[(17,.row false 79 (a.length+b.length) 1 (jb ((mV (a.getD x 0) x b (lF a b x) k).1)))]⟩
theorem agK(a b:List Nat)(ha:iC a)(hb:iC b)(h1:a.length<=3000)(h2:b.length<=3000):gU 221 [gX a,gX b] (gX (lF a b a.length)):=by
 exact tr false Tryz.call221 Tryz.func221 (chain [iq ((a.length:Int)+(b.length:Int)) ae,.a (ae:0<=(((a.length:Int)+(b.length:Int)):Int)/\(((a.length:Int)+(b.length:Int)):Int)<=(((a.length:Int)+(b.length:Int)):Int)),.a (ae:((4:Nat):Int)*((a.length:Int)+(b.length:Int))<=281474976710656/\(((a.length:Int)+(b.length:Int)):Int)<=9223372036854775807),.s (Sp.jx (UQ a b) 0 a.length ae (fun x hx ke=>by
    have f1:=ha.getD x;have so:=Fc ha hb x ae;have g1:=so.len;have g2:=(Fb f1 hb so.ok (i:=x) ae b.length ae).len;have g3:=(Fb f1 hb so.ok (i:=x) ae b.length ae).lt;exact iB (chain [tT 21 ((x:Int)<(a.length:Int)) ae,iX ((x:Int)) (a.length) ae,.s (Sp.jx (UR a b x) 0 b.length ae (fun k hk Ey=>by
    have f2:=hb.getD k;have q:=Fb f1 hb so.ok (i:=x) ae k ae;have f3:=q.ok.getD (x+k);have f4:=q.lt;have f5:=q.len;have f6:=US f1 f2;exact iB (chain [tT 28 ((k:Int)<(b.length:Int)) ae,iX ((k:Int)) (b.length) ae,.o 33 (.int (pB _ ae):PV.le (.e (.v (.int .u64 (IntKind.u64.wrap (a.getD x 0:Int))))) (.e (.v (.int .u64 (a.getD x 0:Int))))),.o 35 (.int (pB _ ae):PV.le (.e (.v (.int .u64 (IntKind.u64.wrap (b.getD k 0:Int))))) (.e (.v (.int .u64 (b.getD k 0:Int))))),
     pd ((a.getD x 0:Int)*(b.getD k 0:Int)) ae,iq ((x:Int)+(k:Int)) ae,iX ((((x+k):Nat):Int)) ((a.length+b.length)) ae,.a (ae:(x+k)<(a.length+b.length)),.o 43 (.int (pB _ ae):PV.le (.e (.v (.int .u64 (IntKind.u64.wrap (((((mV (a.getD x 0) x b (lF a b x) k).1).getD (x+k) 0):Nat):Int))))) (.e (.v (.int .u64 (((((mV (a.getD x 0) x b (lF a b x) k).1).getD (x+k) 0):Nat):Int))))),
     pd (((((a.getD x 0)*(b.getD k 0)):Nat):Int)+(((((mV (a.getD x 0) x b (lF a b x) k).1).getD (x+k) 0):Nat):Int)) ae,
     pd ((((((a.getD x 0)*(b.getD k 0))+(((mV (a.getD x 0) x b (lF a b x) k).1).getD (x+k) 0)):Nat):Int)+(((mV (a.getD x 0) x b (lF a b x) k).2:Nat):Int)) ae,
     iq ((x:Int)+(k:Int)) ae,.o 52 (.int (uA _):PV.le (.e (.v (.int .u32 (IntKind.u32.wrap ((((((a.getD x 0)*(b.getD k 0))+(((mV (a.getD x 0) x b (lF a b x) k).1).getD (x+k) 0))+(mV (a.getD x 0) x b (lF a b x) k).2):Nat):Int))))) (.e (.v (.int .u32 (((((((a.getD x 0)*(b.getD k 0))+(((mV (a.getD x 0) x b (lF a b x) k).1).getD (x+k) 0))+(mV (a.getD x 0) x b (lF a b x) k).2)%4294967296):Nat):Int))))),.a (ae:0<=(32:Int)/\(32:Int)<=((64:Nat):Int)),.o 54 (.int (B2 _):PV.le (.e (.v (.int .u64 (((((((a.getD x 0)*(b.getD k 0))+(((mV (a.getD x 0) x b (lF a b x) k).1).getD (x+k) 0))+(mV (a.getD x 0) x b (lF a b x) k).2):Nat):Int)/2^32)))) (.e (.v (.int .u64 (((((((a.getD x 0)*(b.getD k 0))+(((mV (a.getD x 0) x b (lF a b x) k).1).getD (x+k) 0))+(mV (a.getD x 0) x b (lF a b x) k).2)/4294967296):Nat):Int))))),
     iX ((((x+k):Nat):Int)) ((a.length+b.length)) ae,.a (ae:(x+k)<(a.length+b.length)),iq ((k:Int)+1) ae]<|.e (chain [.o 8 (.int aw:PV.le (.e (.v (.int .u64 (((((((a.getD x 0)*(b.getD k 0))+(((mV (a.getD x 0) x b (lF a b x) k).1).getD (x+k) 0))+(mV (a.getD x 0) x b (lF a b x) k).2)/4294967296):Nat):Int)))) (.e (.v (.int .u64 (((mV (a.getD x 0) x b (lF a b x) (k+1)).2:Nat):Int))))),.b 17 (N4 rfl ae:Bx.le (.row false 79 (a.length+b.length) 1 (fun i' j'=>if i'=(x+k)/\0<=j'/\j'<0+1 then[(.v (.int .u32 (((((((a.getD x 0)*(b.getD k 0))+(((mV (a.getD x 0) x b (lF a b x) k).1).getD (x+k) 0))+(mV (a.getD x 0) x b (lF a b x) k).2)%4294967296):Nat):Int)))].getD (j'-0) .any else(jb ((mV (a.getD x 0) x b (lF a b x) k).1)) i' j')) (.row false 79 (a.length+b.length) 1 (jb ((mV (a.getD x 0) x b (lF a b x) (k+1)).1))))]<|.nil)) ah)
  (fun hk=>by
    exact iB (chain [tF 28 ((b.length:Int)<(b.length:Int)) ae]<|.nil) ah) ak:ju 7 Tryz.f221 (UR a b x 0) (.exit 2) ⟨67,false,[(8,.e (.v (.int .u64 (((mV (a.getD x 0) x b (lF a b x) b.length).2:Nat):Int)))),(6,.e (iP x)),(20,.e (iP x)),(19,.e (iP a.length)),(18,.e (gX a)),(5,.own 17),(1,.e (gX b))],[(17,.row false 79 (a.length+b.length) 1 (jb ((mV (a.getD x 0) x b (lF a b x) b.length).1)))]⟩) (chain [.o 8 (.int aw:PV.le (.e (.v (.int .u64 0))) (.e (.v (.int .u64 (((mV (a.getD x 0) x b (lF a b x) 0).2:Nat):Int))))),.b 17 (.iU rfl:Bx.le (.row false 79 (a.length+b.length) 1 (jb (lF a b x))) (.row false 79 (a.length+b.length) 1 (jb ((mV (a.getD x 0) x b (lF a b x) 0).1))))]<|.nil),
     iq ((x:Int)+(b.length:Int)) ae,.o 63 (.int (uA _):PV.le (.e (.v (.int .u32 (IntKind.u32.wrap (((mV (a.getD x 0) x b (lF a b x) b.length).2:Nat):Int))))) (.e (.v (.int .u32 ((((mV (a.getD x 0) x b (lF a b x) b.length).2%4294967296):Nat):Int))))),
     iX ((((x+b.length):Nat):Int)) ((a.length+b.length)) ae,.a (ae:(x+b.length)<(a.length+b.length)),iq ((x:Int)+1) ae]<|.e (chain [.b 17 (N4 rfl ae:Bx.le (.row false 79 (a.length+b.length) 1 (fun i' j'=>if i'=(x+b.length)/\0<=j'/\j'<0+1 then[(.v (.int .u32 ((((mV (a.getD x 0) x b (lF a b x) b.length).2%4294967296):Nat):Int)))].getD (j'-0) .any else(jb ((mV (a.getD x 0) x b (lF a b x) b.length).1)) i' j')) (.row false 79 (a.length+b.length) 1 (jb (lF a b (x+1)))))]<|.nil)) ah)
  (fun hx=>by
    exact iB (chain [tF 21 ((a.length:Int)<(a.length:Int)) ae]<|.nil) ah) ak:ju 3 Tryz.f221 (UQ a b 0) (.exit 0) ⟨67,false,[(5,.own 17)],[(17,.row false 79 (a.length+b.length) 1 (jb (lF a b a.length)))]⟩) (chain [.b 17 (FQ rfl (fun i=>by simp[lF,aW,fG];split<;>rfl):Bx.le (.row false 79 (a.length+b.length) 1 (fun _ j_=>[(.v (.int .u32 0))].getD j_ .any)) (.row false 79 (a.length+b.length) 1 (jb (lF a b 0))))]<|.nil)]<|rR (gX (lF a b a.length)) (yZ (by rw[(Fc ha hb a.length ae).len]):E.le (.sl false (a.length+b.length) 1 (jb (lF a b a.length))) (gX (lF a b a.length)))) ah 
open Go.RowKit Fp Pu
theorem M7(L:List Nat)(h:L.length<=256):gU 203 [gX L] (bP false):=by
 exact tr true Tryz.call203 Tryz.func203 (chain [tF 5 (256<(L.length:Int)) ae]<|.nil) ah 
theorem agJ(L:List Nat)(h1:L.length<=256):gU 164 [(.sl true 1 1 fun i_ j_=>[(gX L)].getD (i_*1+j_) (.v (.bool false)))] (bP false):=by
 exact tr true Tryz.call164 Tryz.func164 (chain [.c (Uk true 1 _ 203 [] (fun _=>false) (fun i hi=>(match i,hi with|0,_=>M7 _ h1|n+1,hi=>absurd hi ae)) ae (fun _ _=>rfl):gU 202 [(.sl true 1 1 fun i_ j_=>[(gX L)].getD (i_*1+j_) (.v (.bool false))),(.fn 203 [])] _)]<|.nil) ah 
theorem UZ(L:List Nat)(M:List Nat)(h1:L.length<=256)(h2:M.length<=256):gU 164 [(.sl true 2 1 fun i_ j_=>[(gX L),(gX M)].getD (i_*1+j_) (.v (.bool false)))] (bP false):=by
 exact tr true Tryz.call164 Tryz.func164 (chain [.c (Uk true 2 _ 203 [] (fun _=>false) (fun i hi=>(match i,hi with|0,_=>M7 _ h1|1,_=>M7 _ h2|n+2,hi=>absurd hi ae)) ae (fun _ _=>rfl):gU 202 [(.sl true 2 1 fun i_ j_=>[(gX L),(gX M)].getD (i_*1+j_) (.v (.bool false))),(.fn 203 [])] _)]<|.nil) ah 
theorem agL(L M:List Nat)(hL:iC L)(hM:iC M)(h1:L.length<=256)(h2:M.length<=256)(hf:(gV (val L*val M)).length<=256):gU 181 [gX L,gX M] (.iw [gX (gV (val L*val M)),iP 0]):=by
 have ka:=hL.ik;have kb:=hM.ik;have ta:=oH L;have tb:=oH M;unfold lV at ta tb;have km:=(Fc ka kb _ (aU _)).ok;have he:ik (lF (ik L) (ik M) (ik L).length)=gV (val L*val M):=by rw[qy km,alK ka kb,ot,ot]
 have hd:(ik (lF (ik L) (ik M) (ik L).length)).length<=256:=by rw[he];exact hf
 exact tr true Tryz.call181 Tryz.func181 (chain [.c (UZ _ _ af af:gU 164 [(.sl true 2 1 fun i_ j_=>[(gX L),(gX M)].getD (i_*1+j_) (.v (.bool false)))] _),.c (tC _ hL:gU 167 [(gX L)] _),.c (tC _ hM:gU 167 [(gX M)] _),.c (agK _ _ ka kb ae ae:gU 221 [(gX (ik L)),(gX (ik M))] _),.c (UX _ km hd:gU 165 [(gX (lF (ik L) (ik M) (ik L).length))] _)]<|rQ (.iw [(gX (ik (lF (ik L) (ik M) (ik L).length))),(iP 0)]) (.iw [gX (gV (val L*val M)),iP 0]) (by rw[he])) ah 
theorem yO(m n:Nat)(h1:(gV m).length<=256)(h2:(gV n).length<=256)(hf:(gV (m*n)).length<=256):gU 181 [gX (gV m),gX (gV n)] (.iw [gX (gV (m*n)),iP 0]):=by
 have:=agL (gV m) (gV n) (kA m) (kA n) h1 h2 (by rw[jD,jD];exact hf);rwa[jD,jD]at this
open Go.RowKit Fp Pu
theorem vv(m n:Nat)(h1:(gV m).length<=256)(h2:n<=65536)(h3:(gV (m*2^n)).length<=256):gU 216 [(gX (gV m)),(iP n)] (gX (gV (m*2^n))):=by
 exact tr true Tryz.call216 Tryz.func216 (chain [.c (U2 _ _ ae ae ae:gU 168 [(gX (gV m)),(iP n)] _)]<|.nil) ah 
theorem NP(m n:Nat)(h1:(gV m).length<=256)(h2:n<=65536):gU 217 [(gX (gV m)),(iP n)] (.iw [(gX (gV (m/2^n))),(bP (decide (m%2^n≠0)))]):=by
 have hb:=vK h1;have hq:(gV (m/2^n)).length<=256:=nh (by have:=sZ (bw m (2^n));omega);have tZ:(gV (m/2^n*2^n)).length<=256:=nh (by have:=sZ (cN m (2^n));omega);have hr:(gV (m/2^ib m)).length<=256:=nh (by have:=sZ (bw m (2^ib m));omega);have nW:(gV (m/2^ib m*2^ib m)).length<=256:=nh (by have:=sZ (cN m (2^ib m));omega);by_cases hn:ib m<n
 .have q1:=QT (cW hn)
  have q2:=QT (aU (ib m));exact tr true Tryz.call217 Tryz.func217 (chain [.c (sr _ ae:gU 194 [(gX (gV m))] _),tT 11 ((ib m:Int)<(n:Int)) ae,.c (sr _ ae:gU 194 [(gX (gV m))] _),.c (M8 _ _ ae ae:gU 127 [(gX (gV m)),(iP (ib m:Int))] _),.c (vv _ _ ae ae ae:gU 216 [(gX (gV (m/2^(ib m)))),(iP (ib m:Int))] _),.c (yM _ _ ae ae:gU 131 [(gX (gV ((m/2^(ib m))*2^(ib m)))),(gX (gV m))] _)]<|rQ (.iw [(gX (gV (m/2^(ib m)))),(bP ((kg ((m/2^(ib m))*2^(ib m)) m) != 0))]) (.iw [(gX (gV (m/2^n))),(bP (decide (m%2^n≠0)))]) (by rw[Uw,q1.1,q1.2,q2.1,q2.2])) ah 
 .exact tr true Tryz.call217 Tryz.func217 (chain [.c (sr _ ae:gU 194 [(gX (gV m))] _),tF 11 ((ib m:Int)<(n:Int)) ae,.c (M8 _ _ ae ae:gU 127 [(gX (gV m)),(iP n)] _),.c (vv _ _ ae ae ae:gU 216 [(gX (gV (m/2^n))),(iP n)] _),.c (yM _ _ ae ae:gU 131 [(gX (gV ((m/2^n)*2^n))),(gX (gV m))] _)]<|rQ (.iw [(gX (gV (m/2^n))),(bP ((kg ((m/2^n)*2^n) m) != 0))]) (.iw [(gX (gV (m/2^n))),(bP (decide (m%2^n≠0)))]) (by rw[Uw])) ah 
open Go.RowKit Fp Pu
abbrev OH:E:=.sl false 1 1 fun i_ j_=>[(.v (.int .u32 1))].getD (i_*1+j_) (.v (.bool false))
abbrev JR(p):=gX (gV (0*2^((0-(jl 0 0 p)).toNat)))
def nS(m:Nat)(e:Int)(p:Nat):Nat:=if jl m e p<=e then m*2^(e-jl m e p).toNat else m/2^(jl m e p-e).toNat
def rJ(m:Nat)(e:Int)(more:Bool)(p:Nat):Bool:=if jl m e p<=e then more else(more||decide (m%2^(jl m e p-e).toNat≠0))
theorem abk(m:Nat)(e:Int)(more:Bool)(p:Nat):nC m e more p false=nS m e p:=by unfold nC nS;simp
theorem KI{m:Nat}{e:Int}{more:Bool}{p:Nat}(hm:more=true->p<ib m):nC m e more p true=nS m e p+if rJ m e more p=true then 1 else 0:=by
 unfold nC nS rJ;by_cases hU:jl m e p<=e
 .have hmo:more=false:=by
   cases Mc:more with
   |false=>rfl
   |true=>have:=hm Mc;unfold jl at hU;omega
  simp[hU,hmo]
 .simp [hU]
theorem aiM(m:Nat)(e:Int)(more up:Bool)(p:Nat)(h1:(gV m).length<=256)(h0:m≠0)(il:8<=p)(ic:p<=512)(kR:-45000<=e)(kx:e<=45000)(hm:more=true->p<ib m):gU 220 [(.agg [(gX (gV m)),(iP e),(bP more)]),iP (p:Int),bP up] (.iw [gY (jP false m e more p up),iP (jG false m e more p up)]):=by
 have Tg:=QD (e:=e) true h0 hm (show 1<=p by omega);have vd:=QD (e:=e) false h0 hm (show 1<=p by omega);have hb:=vK h1;have pn:=mS h0;have hqb:=QC (e:=e) (more:=more) (p:=p) (up:=true) h0;have hqa:=QC (e:=e) (more:=more) (p:=p) (up:=false) h0;rw[abk]at vd hqa;have hu1:-16384<=(jl m e p):=by unfold jl;omega
 have hu2:(jl m e p)<=60000:=by unfold jl;omega
 have hu3:(jl m e p)<=max (e+8192) (-16384):=by unfold jl;omega
 have fa:(gV (nS m e p)).length<=256:=nh ae;have fb:(gV (nC m e more p true)).length<=256:=nh ae;have f1:(gV 1).length<=256:=nh ag;cases up with
 |true=>
  exact tr true Tryz.call220 Tryz.func220 (chain [.c (sr _ ae:gU 194 [(gX (gV m))] _),iq (e+(ib m:Int)) ae,iq ((e+(ib m:Int))-(p:Int)) ae,.o 21 (.int (by unfold jl;split<;>omega):PV.le (.e (iP (if(-16384)>((e+(ib m:Int))-(p:Int))then(-16384)else((e+(ib m:Int))-(p:Int))))) (.e (iP (jl m e p)))),.j 58 ⟨84,true,[(9,.e (gX (gV (nS m e p)))),(10,.e (bP (rJ m e more p))),(8,.e (iP (jl m e p))),(6,.box 6 0),(1,.e (iP p)),(2,.e (bP true))],[(6,.cells 31 [(bP false),(.v (.slice none 0 0)),(iP 0)])]⟩
   (.w ((jl m e p)<=e)
    (fun m1=>by
     have fx:(gV (m*2^(e-(jl m e p)).toNat)).length<=256:=by have:=fa;rwa[show nS m e p=_ from aR m1]at this
     exact chain [.v 29 (.bool (aS m1)),iq (e-(jl m e p)) ae,.o 35 (.int ae:PV.le (.e (iP (e-(jl m e p)))) (.e (iP ((e-(jl m e p)).toNat:Int)))),.c (vv m ((e-(jl m e p)).toNat:Nat) ae ae ae)]<|.e (chain [.o 9 (.e (.iU (by rw[show nS m e p=_ from aR m1])):PV.le (.e (gX (gV (m*2^((e-(jl m e p)).toNat))))) (.e (gX (gV (nS m e p))))),tB 10 (by simp[rJ,m1]:more=(rJ m e more p))]<|.nil))
    (fun m1=>chain [.v 29 (.bool (aT m1)),iq ((jl m e p)-e) ae,.o 43 (.int ae:PV.le (.e (iP ((jl m e p)-e))) (.e (iP (((jl m e p)-e).toNat:Int)))),.c (NP m (((jl m e p)-e).toNat:Nat) ae ae)]<|.w (more=true)
     (fun m2=>chain [tB 48 (m2)]<|.e (chain [.o 9 (.e (.iU (by rw[show nS m e p=_ from aQ m1])):PV.le (.e (gX (gV (m/2^(((jl m e p)-e).toNat))))) (.e (gX (gV (nS m e p))))),tB 10 (by simp[rJ,m1,m2]:true=(rJ m e more p))]<|.nil))
     (fun m2=>chain [tB 48 (aM m2)]<|.e (chain [.o 9 (.e (.iU (by rw[show nS m e p=_ from aQ m1])):PV.le (.e (gX (gV (m/2^(((jl m e p)-e).toNat))))) (.e (gX (gV (nS m e p))))),tB 10 (by simp[rJ,m1,m2]:(decide (m%2^(((jl m e p)-e).toNat)≠0))=(rJ m e more p))]<|.nil)))),.j 110 ⟨84,true,[(9,.e (gX (gV (nC m e more p true)))),(8,.e (iP (jl m e p))),(6,.box 6 0),(1,.e (iP p)),(2,.e (bP true))],[(6,.cells 31 [(bP false),(.v (.slice none 0 0)),(iP 0)])]⟩
   (.w (rJ m e more p=true)
    (fun m1=>by
     have fx:(gV (nS m e p+1)).length<=256:=by have:=fb;rwa[KI hm,aR m1]at this
     exact chain [.v 55 (.bool (m1)),.o 58 (.e rY:PV.le (.e OH) (.e (gX (gV 1)))),.c (IY _ _ ae ae ae:gU 218 [(gX (gV (nS m e p))),(gX (gV 1))] _)]<|.e (chain [.o 9 (.e (.iU (by rw[KI hm,aR m1])):PV.le (.e (gX (gV ((nS m e p)+1)))) (.e (gX (gV (nC m e more p true)))))]<|.nil))
    (fun m1=>chain [.v 55 (.bool (aM m1))]<|.e (chain [.o 9 (.e (.iU (by rw[KI hm,aQ m1,bt])):PV.le (.e (gX (gV (nS m e p)))) (.e (gX (gV (nC m e more p true)))))]<|.nil))),.c (sr _ ae:gU 194 [(gX (gV (nC m e more p true)))] _),iq ((ib (nC m e more p true):Int)+(jl m e p)) ae]<|.w (16384<((ib (nC m e more p true):Int)+(jl m e p)))
   (fun k1=>by
    have w1:=(Tg.resolve_left (fun h=>absurd k1 ae)).2.resolve_right (fun h=>absurd h.1 ag);exact chain [tB 66 (aS k1),.o 68 (.e vE:PV.le (.e (.agg [(bP false),(.v (.slice none 0 0)),(iP 0)])) (.e (gY jA)))]<|rQ (.iw [(gY jA),(iP 9)]) (.iw [gY (jP false m e more p true),iP (jG false m e more p true)]) (by rw[w1.2.1,w1.2.2]))
   (fun k1=>by
    have w1:=Tg.resolve_right (fun h=>k1 h.1);have hd:mQ (canon false (nC m e more p true) (jl m e p)):=by rw[<-w1.2.1];exact(mn false m e more p true ae ae).range
    exact chain [tB 66 (aT k1),.c (A4 _ _ _ ae ae ae af:gU 262 [(bP false),(gX (gV (nC m e more p true))),(iP (jl m e p))] _)]<|rQ (.iw [(gY (canon false (nC m e more p true) (jl m e p))),(iP 0)]) (.iw [gY (jP false m e more p true),iP (jG false m e more p true)]) (by rw[w1.2.1,w1.2.2]))) ah 
 |false=>
  exact tr true Tryz.call220 Tryz.func220 (chain [.c (sr _ ae:gU 194 [(gX (gV m))] _),iq (e+(ib m:Int)) ae,iq ((e+(ib m:Int))-(p:Int)) ae,.o 21 (.int (by unfold jl;split<;>omega):PV.le (.e (iP (if(-16384)>((e+(ib m:Int))-(p:Int))then(-16384)else((e+(ib m:Int))-(p:Int))))) (.e (iP (jl m e p)))),.j 58 ⟨84,true,[(9,.e (gX (gV (nS m e p)))),(10,.e (bP (rJ m e more p))),(8,.e (iP (jl m e p))),(6,.box 6 0),(1,.e (iP p)),(2,.e (bP false))],[(6,.cells 31 [(bP false),(.v (.slice none 0 0)),(iP 0)])]⟩
   (.w ((jl m e p)<=e)
    (fun m1=>by
     have fx:(gV (m*2^(e-(jl m e p)).toNat)).length<=256:=by have:=fa;rwa[show nS m e p=_ from aR m1]at this
     exact chain [.v 29 (.bool (aS m1)),iq (e-(jl m e p)) ae,.o 35 (.int ae:PV.le (.e (iP (e-(jl m e p)))) (.e (iP ((e-(jl m e p)).toNat:Int)))),.c (vv m ((e-(jl m e p)).toNat:Nat) ae ae ae)]<|.e (chain [.o 9 (.e (.iU (by rw[show nS m e p=_ from aR m1])):PV.le (.e (gX (gV (m*2^((e-(jl m e p)).toNat))))) (.e (gX (gV (nS m e p))))),tB 10 (by simp[rJ,m1]:more=(rJ m e more p))]<|.nil))
    (fun m1=>chain [.v 29 (.bool (aT m1)),iq ((jl m e p)-e) ae,.o 43 (.int ae:PV.le (.e (iP ((jl m e p)-e))) (.e (iP (((jl m e p)-e).toNat:Int)))),.c (NP m (((jl m e p)-e).toNat:Nat) ae ae)]<|.w (more=true)
     (fun m2=>chain [tB 48 (m2)]<|.e (chain [.o 9 (.e (.iU (by rw[show nS m e p=_ from aQ m1])):PV.le (.e (gX (gV (m/2^(((jl m e p)-e).toNat))))) (.e (gX (gV (nS m e p))))),tB 10 (by simp[rJ,m1,m2]:true=(rJ m e more p))]<|.nil))
     (fun m2=>chain [tB 48 (aM m2)]<|.e (chain [.o 9 (.e (.iU (by rw[show nS m e p=_ from aQ m1])):PV.le (.e (gX (gV (m/2^(((jl m e p)-e).toNat))))) (.e (gX (gV (nS m e p))))),tB 10 (by simp[rJ,m1,m2]:(decide (m%2^(((jl m e p)-e).toNat)≠0))=(rJ m e more p))]<|.nil)))),.c (sr _ ae:gU 194 [(gX (gV (nS m e p)))] _),iq ((ib (nS m e p):Int)+(jl m e p)) ae]<|.w (16384<((ib (nS m e p):Int)+(jl m e p)))
   (fun k1=>by
    have w1:=(vd.resolve_left (fun h=>absurd k1 ae)).2.resolve_left (fun h=>absurd h.1 ag);have hd:mQ (canon false ((1*2^p)-1) (16384-(p:Int))):=by rw[bI,<-w1.2.1];exact(mn false m e more p false ae ae).range
    have g0:ib (1*2^p)=p+1:=by rw[bI];exact uJ (aU _) (eu ag ae)
    have g1:(gV 1).length<=256:=nh ag;have g2:(gV (1*2^p)).length<=256:=nh ae;have g4:1<=1*2^p:=by rw[bI];exact aY ag 
    have g3:(gV ((1*2^p)-1)).length<=256:=nh (by have:=sZ (dj (1*2^p) 1);omega);exact chain [tB 66 (aS k1),.o 70 (.e rY:PV.le (.e OH) (.e (gX (gV 1)))),.c (vv 1 p ae ae ae),.o 73 (.e rY:PV.le (.e OH) (.e (gX (gV 1)))),.c (Fi _ _ ae ae ae:gU 219 [(gX (gV (1*2^p))),(gX (gV 1))] _),iq (16384-(p:Int)) ae,.c (A4 _ _ _ ae ae ae af:gU 262 [(bP false),(gX (gV ((1*2^p)-1))),(iP (16384-(p:Int)))] _)]<|rQ (.iw [(gY (canon false ((1*2^p)-1) (16384-(p:Int)))),(iP 0)]) (.iw [gY (jP false m e more p false),iP (jG false m e more p false)]) (by rw[w1.2.1,w1.2.2,bI]))
   (fun k1=>by
    have w1:=vd.resolve_right (fun h=>k1 h.1);have hd:mQ (canon false (nS m e p) (jl m e p)):=by rw[<-w1.2.1];exact(mn false m e more p false ae ae).range
    exact chain [tB 66 (aT k1),.c (A4 _ _ _ ae ae ae af:gU 262 [(bP false),(gX (gV (nS m e p))),(iP (jl m e p))] _)]<|rQ (.iw [(gY (canon false (nS m e p) (jl m e p))),(iP 0)]) (.iw [gY (jP false m e more p false),iP (jG false m e more p false)]) (by rw[w1.2.1,w1.2.2]))) ah 
theorem aiN(up:Bool)(p:Nat)(il:8<=p)(ic:p<=512):gU 220 [(.agg [(gX (gV 0)),(iP 0),(bP false)]),iP (p:Int),bP up] (.iw [gY (jP false 0 0 false p up),iP (jG false 0 0 false p up)]):=by
 have hU:jl 0 0 p = -(p:Int):=by unfold jl;rw[qX];omega
 have hK:ja 0 0 p=0:=by unfold ja;rw[qX];omega
 have hQ:kC 0 0 false p up=0:=by unfold kC;rw[hK];simp
 have hO:lO 0 0 false p up=false:=by unfold lO;rw[hQ];simp
 have qG:(false != up)=up:=by cases up<;>rfl
 have k2:jP false 0 0 false p up=jA:=by unfold jP;rw[qG,hO,aQ ag,hQ];rfl
 have k3:jG false 0 0 false p up=0:=by unfold jG;rw[qG,hO];rfl
 have lz:ib 0=0:=rfl;have l0:(gV 0).length<=256:=by rw[ni];decide
 have l1:(gV (0*2^(0-jl 0 0 p).toNat)).length<=256:=by rw[ch];exact l0
 have lb:ib (0*2^(0-jl 0 0 p).toNat)=0:=by rw[ch];rfl
 have hd:mQ (canon false (0*2^(0-jl 0 0 p).toNat) (jl 0 0 p)):=by rw[ch];exact .inl rfl
 by_cases Bs:up=true
 .exact tr true Tryz.call220 Tryz.func220 (chain [.c (sr _ ae:gU 194 [(gX (gV 0))] _),iq (0+(ib 0:Int)) ae,iq ((0+(ib 0:Int))-(p:Int)) ae,.o 21 (.int (by unfold jl;rw[qX];split<;>omega):PV.le (.e (iP (if(-16384)>((0+(ib 0:Int))-(p:Int))then(-16384)else((0+(ib 0:Int))-(p:Int))))) (.e (iP (jl 0 0 p)))),tT 29 ((jl 0 0 p)<=0) ae,iq (0-(jl 0 0 p)) ae,.o 35 (.int ae:PV.le (.e (iP (0-(jl 0 0 p)))) (.e (iP ((0-(jl 0 0 p)).toNat:Int)))),.c (vv 0 ((0-(jl 0 0 p)).toNat:Nat) ae ae ae),tB 52 (Bs:up=true),.c (sr _ ae:gU 194 [(JR p)] _),
   iq ((ib (0*2^((0-(jl 0 0 p)).toNat)):Int)+(jl 0 0 p)) ae,tF 66 (16384<((ib (0*2^((0-(jl 0 0 p)).toNat)):Int)+(jl 0 0 p))) ae,.c (A4 _ _ _ ae ae ae af:gU 262 [(bP false),(JR p),(iP (jl 0 0 p))] _)]<|rQ (.iw [(gY (canon false (0*2^((0-(jl 0 0 p)).toNat)) (jl 0 0 p))),(iP 0)]) (.iw [gY (jP false 0 0 false p up),iP (jG false 0 0 false p up)]) (by rw[k2,k3,ch];rfl)) ah 
 .exact tr true Tryz.call220 Tryz.func220 (chain [.c (sr _ ae:gU 194 [(gX (gV 0))] _),iq (0+(ib 0:Int)) ae,iq ((0+(ib 0:Int))-(p:Int)) ae,.o 21 (.int (by unfold jl;rw[qX];split<;>omega):PV.le (.e (iP (if(-16384)>((0+(ib 0:Int))-(p:Int))then(-16384)else((0+(ib 0:Int))-(p:Int))))) (.e (iP (jl 0 0 p)))),tT 29 ((jl 0 0 p)<=0) ae,iq (0-(jl 0 0 p)) ae,.o 35 (.int ae:PV.le (.e (iP (0-(jl 0 0 p)))) (.e (iP ((0-(jl 0 0 p)).toNat:Int)))),.c (vv 0 ((0-(jl 0 0 p)).toNat:Nat) ae ae ae),tB 52 (by simpa using Bs:up=false),.c (sr _ ae:gU 194 [(JR p)] _),
   iq ((ib (0*2^((0-(jl 0 0 p)).toNat)):Int)+(jl 0 0 p)) ae,tF 66 (16384<((ib (0*2^((0-(jl 0 0 p)).toNat)):Int)+(jl 0 0 p))) ae,.c (A4 _ _ _ ae ae ae af:gU 262 [(bP false),(JR p),(iP (jl 0 0 p))] _)]<|rQ (.iw [(gY (canon false (0*2^((0-(jl 0 0 p)).toNat)) (jl 0 0 p))),(iP 0)]) (.iw [gY (jP false 0 0 false p up),iP (jG false 0 0 false p up)]) (by rw[k2,k3,ch];rfl)) ah 
theorem Dr(m:Nat)(e:Int)(more up:Bool)(p:Nat)(h1:(gV m).length<=256)(h0:m≠0\/m=0/\e=0/\more=false)(il:8<=p)(ic:p<=512)(kR:-45000<=e)(kx:e<=45000)(hm:more=true->p<ib m):gU 220 [(.agg [(gX (gV m)),(iP e),(bP more)]),iP (p:Int),bP up] (.iw [gY (jP false m e more p up),iP (jG false m e more p up)]):=by
 rcases h0 with h0|⟨rfl,rfl,rfl⟩
 .exact aiM m e more up p h1 h0 il ic kR kx hm
 .exact aiN up p il ic
open Go.RowKit Fp Pu
def lp(p:Int):Bool:=decide (8<=p)&&decide (p<=512)
theorem o0{p:Int}:lp p=true↔8<=p/\p<=512:=by simp[lp]
theorem vf(p:Int):gU 87 [iP p] (bP (lp p)):=by
 by_cases h:8<=p
 .exact tr true Tryz.call87 Tryz.func87 (chain [tB 4 (aS h)]<|rQ (bP (decide (p<=512))) (bP (lp p)) (by simp[lp,h])) ah 
 .exact tr true Tryz.call87 Tryz.func87 (chain [tB 4 (aT h)]<|rQ (bP false) (bP (lp p)) (by simp[lp,h])) ah 
theorem NT(p:Int):gU 48 [iP p] (bP (lp p)):=by
 by_cases h:8<=p
 .exact tr true Tryz.call48 Tryz.func48 (chain [tB 4 (aS h)]<|rQ (bP (decide (p<=512))) (bP (lp p)) (by simp[lp,h])) ah 
 .exact tr true Tryz.call48 Tryz.func48 (chain [tB 4 (aT h)]<|rQ (bP false) (bP (lp p)) (by simp[lp,h])) ah 
theorem aiP(p:Int):gU 214 [iP p] (bP (lp p)):=by
 by_cases h:8<=p
 .exact tr true Tryz.call214 Tryz.func214 (chain [tB 4 (aS h)]<|rQ (bP (decide (p<=512))) (bP (lp p)) (by simp[lp,h])) ah 
 .exact tr true Tryz.call214 Tryz.func214 (chain [tB 4 (aT h)]<|rQ (bP false) (bP (lp p)) (by simp[lp,h])) ah 
open Go.RowKit Fp Pu
def Wl(l:List Dy)(p:Nat)(i:Nat):PS:=⟨20,true,[(9,.e (iP i)),(8,.e (iP l.length)),(7,.e (np l)),(0,.e (iP p))],[]⟩
theorem FJ(neg:Bool)(m:Nat)(e:Int)(more up:Bool)(p:Nat)(h1:(gV m).length<=256)(h0:m≠0\/m=0/\e=0/\more=false)(il:8<=p)(ic:p<=512)(kR:-45000<=e)(kx:e<=45000)(hm:more=true->p<ib m):gU 180 [(bP neg),(.agg [(gX (gV m)),(iP e),(bP more)]),(iP p),(bP up)] (.iw [gY (jP neg m e more p up),iP (jG neg m e more p up)]):=by
 cases neg with
 |true=>
  have hs:=QJ true m e more p up;change _/\(jG false m e more p (!(up==true))=0->_->iF (jP false m e more p (!(up==true)))=_)/\((jG false m e more p (!(up==true))≠0\/_)->jP false m e more p (!(up==true))=_)at hs;have hE:jG true m e more p up=jG false m e more p (!(up==true)):=hs.1;have hv:=mn false m e more p (!(up==true)) (show 1<=p by omega) ae;by_cases hz:jG false m e more p (!(up==true))=0
  .exact tr true Tryz.call180 Tryz.func180 (chain [.c (Dr _ _ _ _ _ ae af ae ae ae ae af:gU 220 [(.agg [(gX (gV m)),(iP e),(bP more)]),(iP p),(bP (!(up==true)))] _),tB 22 (by rw[hz];rfl:((jG false m e more p (!(up==true)))==0)=true),.c (xW _ af:gU 191 [(gY (jP false m e more p (!(up==true))))] _)]<|rQ (.iw [(gY (iF (jP false m e more p (!(up==true))))),(iP (jG false m e more p (!(up==true))))]) (.iw [gY (jP true m e more p up),iP (jG true m e more p up)]) (by rw[hs.2.1 hz rfl,hE])) ah 
  .exact tr true Tryz.call180 Tryz.func180 (chain [.c (Dr _ _ _ _ _ ae af ae ae ae ae af:gU 220 [(.agg [(gX (gV m)),(iP e),(bP more)]),(iP p),(bP (!(up==true)))] _),tB 22 (by simpa using hz:((jG false m e more p (!(up==true)))==0)=false)]<|rQ (.iw [(gY (jP false m e more p (!(up==true)))),(iP (jG false m e more p (!(up==true))))]) (.iw [gY (jP true m e more p up),iP (jG true m e more p up)]) (by rw[hs.2.2 (.inl hz),hE])) ah 
 |false=>
  have hs:=QJ false m e more p up;change _/\(jG false m e more p (!(up==false))=0->_->iF (jP false m e more p (!(up==false)))=_)/\((jG false m e more p (!(up==false))≠0\/_)->jP false m e more p (!(up==false))=_)at hs;have hE:jG false m e more p up=jG false m e more p (!(up==false)):=hs.1;have hv:=mn false m e more p (!(up==false)) (show 1<=p by omega) ae;by_cases hz:jG false m e more p (!(up==false))=0
  .exact tr true Tryz.call180 Tryz.func180 (chain [.c (Dr _ _ _ _ _ ae af ae ae ae ae af:gU 220 [(.agg [(gX (gV m)),(iP e),(bP more)]),(iP p),(bP (!(up==false)))] _),tB 22 (by rw[hz];rfl:((jG false m e more p (!(up==false)))==0)=true)]<|rQ (.iw [(gY (jP false m e more p (!(up==false)))),(iP (jG false m e more p (!(up==false))))]) (.iw [gY (jP false m e more p up),iP (jG false m e more p up)]) (by rw[hs.2.2 (.inr rfl),hE])) ah 
  .exact tr true Tryz.call180 Tryz.func180 (chain [.c (Dr _ _ _ _ _ ae af ae ae ae ae af:gU 220 [(.agg [(gX (gV m)),(iP e),(bP more)]),(iP p),(bP (!(up==false)))] _),tB 22 (by simpa using hz:((jG false m e more p (!(up==false)))==0)=false)]<|rQ (.iw [(gY (jP false m e more p (!(up==false)))),(iP (jG false m e more p (!(up==false))))]) (.iw [gY (jP false m e more p up),iP (jG false m e more p up)]) (by rw[hs.2.2 (.inl hz),hE])) ah 
theorem aiO(d:Dy):gU 215 [(gY d)] (.agg [(gX (gV d.m)),(iP d.e),(bP false)]):=by
 exact tr true Tryz.call215 Tryz.func215 (.nil) ah 
theorem Wm(p:Nat)(l:List Dy)(hl:l.length<=1000)(hv:∀ i,i<l.length->(l.getD i jA).ia)(il:8<=p)(ic:p<=512):gU 177 [(iP p),(np l)] (iP 0):=by
 exact tr true Tryz.call177 Tryz.func177 (chain [.s (Sp.jx (Wl l p) 0 l.length ae (fun i hi pL=>by
    have Tp:=hv i pL;exact iB (chain [tT 10 ((i:Int)<(l.length:Int)) ae,iX ((i:Int)) (l.length) ae,.c (qp _ af:gU 68 [(gY (l.getD i jA))] _),iq ((i:Int)+1) ae]<|.nil) ah)
  (fun hi=>by
    exact iB (chain [tF 10 ((l.length:Int)<(l.length:Int)) ae]<|.nil) ah) ak:ju 2 Tryz.f177 (Wl l p 0) (.exit 0) ⟨20,true,[(0,.e (iP p))],[]⟩) .nil,.c (aiP _:gU 214 [(iP p)] _),tB 18 (o0.2 ⟨ae,ae⟩:(lp (p:Int))=true)]<|.nil) ah 
theorem NN(p:Nat)(a:Dy)(ha:a.ia)(il:8<=p)(ic:p<=512):gU 177 [iP (p:Int),np [a]] (iP 0):=
 Wm p [a] aj (fun i hi=>(match i,hi with
  | 0,_=>ha
  |n+1,hi=>absurd hi aj)) il ic
theorem wH(p:Nat)(a b:Dy)(ha:a.ia)(hb:b.ia)(il:8<=p)(ic:p<=512):gU 177 [iP (p:Int),np [a,b]] (iP 0):=
 Wm p [a,b] aj (fun i hi=>(match i,hi with
  | 0,_=>ha
  | 1,_=>hb
  |n+2,hi=>absurd hi aj)) il ic
theorem Jl(d:Dy)(p:Nat)(up:Bool)(hd:d.ia)(il:8<=p)(ic:p<=512):gU 178 [(gY d),(iP p),(bP up)] (.iw [gY (jj d p up),iP (jz d p up)]):=by
 have hl:=hd.gV;have hz:d.m≠0\/d.m=0/\d.e=0/\false=false:=by
  by_cases h:d.m=0
  .rcases hd.canon with q|q
   .exact .inr ⟨h,q.2.2,rfl⟩
   .omega
  .exact .inl h
 have wB:-45000<=d.e:=by have:=hd.exp;omega
 have q8:d.e<=45000:=by have:=hd.exp;omega
 have hm:false=true->p<ib d.m:=fun h=>by cases h
 exact tr true Tryz.call178 Tryz.func178 (chain [.o 11 (.e (KU _):PV.le (.e (.sl true 1 3 fun i_ j_=>(jq d).getD (i_*3+j_) (.v (.bool false)))) (.e (np [d]))),.c (NN _ _ af ae ae:gU 177 [(iP p),(np [d])] _),tB 14 (ag:((0:Int) != 0)=false),.c (aiO _:gU 215 [(gY d)] _),.c (FJ _ _ _ _ _ _ ae af ae ae ae ae af:gU 180 [(bP d.neg),(.agg [(gX (gV d.m)),(iP d.e),(bP false)]),(iP p),(bP up)] _)]<|.nil) ah 
theorem Cn{a b:Nat}:kg a b<0↔a<b:=by
 unfold kg;split
 .simp_all
 .split<;>simp_all
theorem Jm(a b:Dy)(p:Nat)(ha:a.ia)(hb:b.ia)(a0:a.m≠0)(b0:b.m≠0)(ht:b.iu<=a.iu)(il:8<=p)(ic:p<=512):gU 179 [(gY a),(gY b),(iP p)] (.iw [(.agg [(gX (gV (lR a b p))),(iP (jm a b p)),(bP (mY a b p))]),bP (o9 a b p)]):=by
 have sz:=JH ha hb a0 b0 ht ic;have sp:=Ou ha hb a0 b0 ht ic;obtain⟨l1,l2,l3,l4,l5,l6,l7,l8,l9⟩:=sz;obtain⟨l10,l11,l12⟩:=sp;obtain⟨r1,r2,r3⟩:=NX a b p;have va:=ha.gV;have vb:=hb.gV;have xa:=ha.exp;have xb:=hb.exp;have ta:=F0 a0;have tb:=F0 b0;have ba:=vK va;have bb:=vK vb;have z1:(gV (a.m*2^((a.e-(jm a b p)).toNat))).length<=256:=nh (show ib (nG a b p)<=_ by omega);have zy:(gV (mI b (jm a b p))).length<=256:=nh ae;have z3:(gV (mH a b p)).length<=256:=nh ae;have zm:(gV (lR a b p)).length<=256:=nh ae;have z5:(gV 1).length<=256:=nh ag;exact tr true Tryz.call179 Tryz.func179 (chain [.c (oD _ af:gU 130 [(gY a)] _),iq ((Dy.iu a)-(p:Int)) ae,iq (((Dy.iu a)-(p:Int))-8) ae,.c (oD _ af:gU 130 [(gY a)] _),.c (oD _ af:gU 130 [(gY b)] _),iq ((Dy.iu a)-(Dy.iu b)) ae,.j 62 ⟨109,true,[(8,.e (iP (jm a b p))),(6,.box 6 0),(4,.box 4 0),(3,.box 3 0)],[(6,.cells 148 [(.v (.slice none 0 0)),(iP 0),(bP false)]),(4,.cells 31 (jq b)),(3,.cells 31 (jq a))]⟩
   (.w (((Dy.iu a)-(Dy.iu b))<=2)
    (fun m1=>chain [.v 31 (.bool (aS m1))]<|.e (chain [.o 8 (.int (by unfold jm;rw[aR m1];split<;>split<;>omega):PV.le (.e (iP (if b.e<(if(((Dy.iu a)-(p:Int))-8)<a.e then(((Dy.iu a)-(p:Int))-8)else a.e)then b.e else(if(((Dy.iu a)-(p:Int))-8)<a.e then(((Dy.iu a)-(p:Int))-8)else a.e)))) (.e (iP (jm a b p))))]<|.nil))
    (fun m1=>chain [.v 31 (.bool (aT m1))]<|.e (chain [.o 8 (.int (by unfold jm;rw[aQ m1];split<;>omega):PV.le (.e (iP (if(((Dy.iu a)-(p:Int))-8)<a.e then(((Dy.iu a)-(p:Int))-8)else a.e))) (.e (iP (jm a b p))))]<|.nil))),
  iq (a.e-(jm a b p)) ae,.o 41 (.int ae:PV.le (.e (iP (a.e-(jm a b p)))) (.e (iP ((a.e-(jm a b p)).toNat:Int)))),.c (vv a.m ((a.e-(jm a b p)).toNat) ae ae ae),.j 92 ⟨109,true,[(10,.e (gX (gV (mI b (jm a b p))))),(11,.e (bP (nv b (jm a b p)))),(9,.e (gX (gV (a.m*2^((a.e-(jm a b p)).toNat))))),(8,.e (iP (jm a b p))),(6,.box 6 0),(4,.box 4 0),(3,.box 3 0)],[(6,.cells 148 [(.v (.slice none 0 0)),(iP 0),(bP false)]),(4,.cells 31 (jq b)),(3,.cells 31 (jq a))]⟩
   (.w ((jm a b p)<=b.e)
    (fun m1=>by
     have z2:(gV (b.m*2^((b.e-(jm a b p)).toNat))).length<=256:=by have:=zy;rwa[show mI b (jm a b p)=_ from aR m1]at this
     exact chain [.v 46 (.bool (aS m1)),iq (b.e-(jm a b p)) ae,.o 52 (.int ae:PV.le (.e (iP (b.e-(jm a b p)))) (.e (iP ((b.e-(jm a b p)).toNat:Int)))),.c (vv b.m ((b.e-(jm a b p)).toNat) ae ae ae)]<|.e (chain [.o 10 (.e (.iU (by rw[show mI b (jm a b p)=_ from aR m1])):PV.le (.e (gX (gV (b.m*2^((b.e-(jm a b p)).toNat))))) (.e (gX (gV (mI b (jm a b p)))))),tB 11 (by simp[nv,m1]:false=(nv b (jm a b p)))]<|.nil))
    (fun m1=>chain [.v 46 (.bool (aT m1)),iq ((jm a b p)-b.e) ae,.o 60 (.int ae:PV.le (.e (iP ((jm a b p)-b.e))) (.e (iP (((jm a b p)-b.e).toNat:Int)))),.c (NP b.m (((jm a b p)-b.e).toNat) ae ae)]<|.e (chain [.o 10 (.e (.iU (by rw[show mI b (jm a b p)=_ from aQ m1])):PV.le (.e (gX (gV (b.m/2^(((jm a b p)-b.e).toNat))))) (.e (gX (gV (mI b (jm a b p)))))),tB 11 (by simp[nv,m1]:(decide (b.m%2^(((jm a b p)-b.e).toNat)≠0))=(nv b (jm a b p)))]<|.nil)))]<|.w (a.neg=b.neg)
  (fun k1=>by
   have eT:o9 a b p=false:=by unfold o9;simp[k1]
   have eY:mH a b p=mI b (jm a b p):=by unfold mH;simp[k1]
   have eM:lR a b p=nG a b p+mI b (jm a b p):=by unfold lR;rw[aR k1,eY]
   have eS:mY a b p=nv b (jm a b p):=by unfold mY;rw[eT];simp
   have z4:(gV ((a.m*2^((a.e-(jm a b p)).toNat))+mI b (jm a b p))).length<=256:=by have:=zm;rwa[eM]at this
   exact chain [tB 68 (aK k1),.c (IY _ _ ae ae ae:gU 218 [(gX (gV (a.m*2^((a.e-(jm a b p)).toNat)))),(gX (gV (mI b (jm a b p))))] _)]<|rQ (.iw [(.agg [(gX (gV ((a.m*2^((a.e-(jm a b p)).toNat))+(mI b (jm a b p))))),(iP (jm a b p)),(bP (nv b (jm a b p)))]),(bP false)]) (.iw [(.agg [(gX (gV (lR a b p))),(iP (jm a b p)),(bP (mY a b p))]),bP (o9 a b p)]) (by rw[eM,eS,eT];rfl))
  (fun k1=>chain [tB 68 (aJ k1),.j 158 ⟨109,true,[(10,.e (gX (gV (mH a b p)))),(11,.e (bP (nv b (jm a b p)))),(9,.e (gX (gV (a.m*2^((a.e-(jm a b p)).toNat))))),(8,.e (iP (jm a b p))),(6,.box 6 0)],[(6,.cells 148 [(.v (.slice none 0 0)),(iP 0),(bP false)])]⟩
   (.w (nv b (jm a b p)=true)
    (fun m1=>by
     have z6:(gV ((mI b (jm a b p))+1)).length<=256:=nh (by rw[show(mI b (jm a b p))+1=mH a b p by(unfold mH;simp[k1,m1])];omega);exact chain [.v 79 (.bool (m1)),.o 82 (.e rY:PV.le (.e (.sl false 1 1 fun i_ j_=>[(.v (.int .u32 1))].getD (i_*1+j_) (.v (.bool false)))) (.e (gX (gV 1)))),.c (IY _ _ ae ae ae:gU 218 [(gX (gV (mI b (jm a b p)))),(gX (gV 1))] _)]<|.e (chain [.o 10 (.e (.iU (by unfold mH;simp[k1,m1])):PV.le (.e (gX (gV ((mI b (jm a b p))+1)))) (.e (gX (gV (mH a b p)))))]<|.nil))
    (fun m1=>chain [.v 79 (.bool (aM m1))]<|.e (chain [.o 10 (.e (.iU (by unfold mH;simp[k1,m1])):PV.le (.e (gX (gV (mI b (jm a b p))))) (.e (gX (gV (mH a b p)))))]<|.nil))),.c (yM _ _ ae ae:gU 131 [(gX (gV (a.m*2^((a.e-(jm a b p)).toNat)))),(gX (gV (mH a b p)))] _)]<|.w ((kg (a.m*2^((a.e-(jm a b p)).toNat)) (mH a b p))<0)
   (fun k2=>by
    have hc:nG a b p<mH a b p:=Cn.1 k2;have eT:o9 a b p=true:=by unfold o9;simp[k1,hc]
    have eM:lR a b p=mH a b p-nG a b p:=by unfold lR;rw[aQ k1,aR hc]
    have eS:mY a b p=false:=by unfold mY;rw[eT];simp
    have z4:(gV (mH a b p-(a.m*2^((a.e-(jm a b p)).toNat)))).length<=256:=by have:=zm;rwa[eM]at this
    have z7:(a.m*2^((a.e-(jm a b p)).toNat))<=mH a b p:=cW hc;exact chain [tB 89 (aS k2),.c (Fi _ _ ae ae ae:gU 219 [(gX (gV (mH a b p))),(gX (gV (a.m*2^((a.e-(jm a b p)).toNat))))] _)]<|rQ (.iw [(.agg [(gX (gV ((mH a b p)-(a.m*2^((a.e-(jm a b p)).toNat))))),(iP (jm a b p)),(bP false)]),(bP true)]) (.iw [(.agg [(gX (gV (lR a b p))),(iP (jm a b p)),(bP (mY a b p))]),bP (o9 a b p)]) (by rw[eM,eS,eT];rfl))
   (fun k2=>by
    have hc:¬nG a b p<mH a b p:=fun h=>k2 (Cn.2 h)
    have eT:o9 a b p=false:=by unfold o9;simp[hc]
    have eM:lR a b p=nG a b p-mH a b p:=by unfold lR;rw[aQ k1,aQ hc]
    have eS:mY a b p=nv b (jm a b p):=by unfold mY;rw[eT];simp
    have z4:(gV ((a.m*2^((a.e-(jm a b p)).toNat))-mH a b p)).length<=256:=by have:=zm;rwa[eM]at this
    have z7:mH a b p<=(a.m*2^((a.e-(jm a b p)).toNat)):=fi hc;exact chain [tB 89 (aT k2),.c (Fi _ _ ae ae ae:gU 219 [(gX (gV (a.m*2^((a.e-(jm a b p)).toNat)))),(gX (gV (mH a b p)))] _)]<|rQ (.iw [(.agg [(gX (gV ((a.m*2^((a.e-(jm a b p)).toNat))-(mH a b p)))),(iP (jm a b p)),(bP (nv b (jm a b p)))]),(bP false)]) (.iw [(.agg [(gX (gV (lR a b p))),(iP (jm a b p)),(bP (mY a b p))]),bP (o9 a b p)]) (by rw[eM,eS,eT];rfl)))) ah 
open Go.RowKit Fp Pu
theorem AD(p:Nat)(up:Bool):jj jA p up=jA/\jz jA p up=0:=by
 have hK:ja 0 0 p=0:=by unfold ja;rw[qX];omega
 have hQ:∀ o,kC 0 0 false p o=0:=by intro o;unfold kC;rw[hK];simp
 have hO:∀ o,lO 0 0 false p o=false:=by intro o;unfold lO;rw[hQ];simp
 unfold jj jz jP jG;simp only[jA,hO,hQ];exact⟨rfl,rfl⟩
theorem Wh(a b:Dy)(p:Nat)(up:Bool)(ha:a.ia)(hb:b.ia)(il:8<=p)(ic:p<=512):gU 144 [(gY a),(gY b),(iP p),(bP up)] (.iw [gY (jj (iI a b) p up),iP (jz (iI a b) p up)]):=by
 by_cases a0:a.m=0
 .have e1:iI a b=b:=by unfold iI;rw[aR a0]
  exact tr true Tryz.call144 Tryz.func144 (chain [.o 16 (.e (vR _ _):PV.le (.e (.sl true 2 3 fun i_ j_=>(jq a++jq b).getD (i_*3+j_) (.v (.bool false)))) (.e (np [a,b]))),.c (wH _ _ _ af af ae ae:gU 177 [(iP p),(np [a,b])] _),tB 19 (ag:((0:Int) != 0)=false),tB 26 (rX (qT.2 a0):(((gV a.m).length:Int)==0)=true),.c (Jl b p up af ae ae)]<|rQ (.iw [(gY (jj b p up)),(iP (jz b p up))]) (.iw [gY (jj (iI a b) p up),iP (jz (iI a b) p up)]) (by rw[e1])) ah 
 .by_cases b0:b.m=0
  .have e1:iI a b=a:=by unfold iI;rw[aQ a0,aR b0]
   exact tr true Tryz.call144 Tryz.func144 (chain [.o 16 (.e (vR _ _):PV.le (.e (.sl true 2 3 fun i_ j_=>(jq a++jq b).getD (i_*3+j_) (.v (.bool false)))) (.e (np [a,b]))),.c (wH _ _ _ af af ae ae:gU 177 [(iP p),(np [a,b])] _),tB 19 (ag:((0:Int) != 0)=false),tB 26 (nx (pS a0):(((gV a.m).length:Int)==0)=false),tB 37 (rX (qT.2 b0):(((gV b.m).length:Int)==0)=true),.c (Jl a p up af ae ae)]<|rQ (.iw [(gY (jj a p up)),(iP (jz a p up))]) (.iw [gY (jj (iI a b) p up),iP (jz (iI a b) p up)]) (by rw[e1])) ah 
  .by_cases ht:a.iu<b.iu
   .have rT:a.iu<=b.iu:= ae 
    have law:=XJ (p:=p) hb ha b0 a0 up;have siz:=JH hb ha b0 a0 rT ic;have prt:=Ou hb ha b0 a0 rT ic;obtain⟨l1,l2,_,_,_,_,_,_,_⟩:=siz;have z1:(gV (lR b a p)).length<=256:=nh ae;have se:=prt.2.2;have y1:-45000<=jm b a p:= ae ;have y2:jm b a p<=45000:= ae ;by_cases hz:lR b a p=0
    .by_cases hl:mY b a p=true
     .have h0:lR b a p≠0:=by intro q;have:=se hl;rw[q,qX]at this;omega
      exact absurd hz h0
     .replace hz:lR b a p=0/\mY b a p=false:=⟨hz,by simpa using hl⟩
      have yA:iI a b=jA:=by rw[Ot a0 b0];exact law.1 hz
      exact tr true Tryz.call144 Tryz.func144 (chain [.o 16 (.e (vR _ _):PV.le (.e (.sl true 2 3 fun i_ j_=>(jq a++jq b).getD (i_*3+j_) (.v (.bool false)))) (.e (np [a,b]))),.c (wH _ _ _ af af ae ae:gU 177 [(iP p),(np [a,b])] _),tB 19 (ag:((0:Int) != 0)=false),tB 26 (nx (pS a0):(((gV a.m).length:Int)==0)=false),tB 37 (nx (pS b0):(((gV b.m).length:Int)==0)=false),.c (oD _ af:gU 130 [(gY a)] _),.c (oD _ af:gU 130 [(gY b)] _),tB 48 (aS ht),.c (Jm b a p af af af af af ae ae),tB 61 (rX (qT.2 hz.1):(((gV (lR b a p)).length:Int)==0)=true),tB 64 (hz.2:(mY b a p)=false),.o 67 (.e vE:PV.le (.e (.agg [(bP false),(.v (.slice none 0 0)),(iP 0)])) (.e (gY jA)))]<|rQ (.iw [(gY jA),(iP 0)]) (.iw [gY (jj (iI a b) p up),iP (jz (iI a b) p up)]) (by rw[yA,(AD p up).1,(AD p up).2])) ah 
    .have h0:lR b a p≠0\/lR b a p=0/\jm b a p=0/\mY b a p=false:=.inl hz
     obtain⟨q1,q2⟩:=law.2 (fun q=>hz q.1);rw[<-Ot a0 b0]at q1 q2;exact tr true Tryz.call144 Tryz.func144 (chain [.o 16 (.e (vR _ _):PV.le (.e (.sl true 2 3 fun i_ j_=>(jq a++jq b).getD (i_*3+j_) (.v (.bool false)))) (.e (np [a,b]))),.c (wH _ _ _ af af ae ae:gU 177 [(iP p),(np [a,b])] _),tB 19 (ag:((0:Int) != 0)=false),tB 26 (nx (pS a0):(((gV a.m).length:Int)==0)=false),tB 37 (nx (pS b0):(((gV b.m).length:Int)==0)=false),.c (oD _ af:gU 130 [(gY a)] _),.c (oD _ af:gU 130 [(gY b)] _),tB 48 (aS ht),.c (Jm b a p af af af af af ae ae),tB 61 (nx (pS hz):(((gV (lR b a p)).length:Int)==0)=false),.c (FJ (! (b.neg==(o9 b a p))) (lR b a p) (jm b a p) (mY b a p) up p ae af ae ae ae ae af)]<|rQ (.iw [(gY (jP (!(b.neg==(o9 b a p))) (lR b a p) (jm b a p) (mY b a p) p up)),(iP (jG (!(b.neg==(o9 b a p))) (lR b a p) (jm b a p) (mY b a p) p up))]) (.iw [gY (jj (iI a b) p up),iP (jz (iI a b) p up)]) (by rw[<-q1,<-q2];rfl)) ah 
   .have rT:b.iu<=a.iu:= ae 
    have law:=XJ (p:=p) ha hb a0 b0 up;have siz:=JH ha hb a0 b0 rT ic;have prt:=Ou ha hb a0 b0 rT ic;obtain⟨l1,l2,_,_,_,_,_,_,_⟩:=siz;have z1:(gV (lR a b p)).length<=256:=nh ae;have se:=prt.2.2;have y1:-45000<=jm a b p:= ae ;have y2:jm a b p<=45000:= ae ;by_cases hz:lR a b p=0
    .by_cases hl:mY a b p=true
     .have h0:lR a b p≠0:=by intro q;have:=se hl;rw[q,qX]at this;omega
      exact absurd hz h0
     .replace hz:lR a b p=0/\mY a b p=false:=⟨hz,by simpa using hl⟩
      have yA:iI a b=jA:=by exact law.1 hz
      exact tr true Tryz.call144 Tryz.func144 (chain [.o 16 (.e (vR _ _):PV.le (.e (.sl true 2 3 fun i_ j_=>(jq a++jq b).getD (i_*3+j_) (.v (.bool false)))) (.e (np [a,b]))),.c (wH _ _ _ af af ae ae:gU 177 [(iP p),(np [a,b])] _),tB 19 (ag:((0:Int) != 0)=false),tB 26 (nx (pS a0):(((gV a.m).length:Int)==0)=false),tB 37 (nx (pS b0):(((gV b.m).length:Int)==0)=false),.c (oD _ af:gU 130 [(gY a)] _),.c (oD _ af:gU 130 [(gY b)] _),tB 48 (aT ht),.c (Jm a b p af af af af af ae ae),tB 61 (rX (qT.2 hz.1):(((gV (lR a b p)).length:Int)==0)=true),tB 64 (hz.2:(mY a b p)=false),.o 67 (.e vE:PV.le (.e (.agg [(bP false),(.v (.slice none 0 0)),(iP 0)])) (.e (gY jA)))]<|rQ (.iw [(gY jA),(iP 0)]) (.iw [gY (jj (iI a b) p up),iP (jz (iI a b) p up)]) (by rw[yA,(AD p up).1,(AD p up).2])) ah 
    .have h0:lR a b p≠0\/lR a b p=0/\jm a b p=0/\mY a b p=false:=.inl hz
     obtain⟨q1,q2⟩:=law.2 (fun q=>hz q.1);exact tr true Tryz.call144 Tryz.func144 (chain [.o 16 (.e (vR _ _):PV.le (.e (.sl true 2 3 fun i_ j_=>(jq a++jq b).getD (i_*3+j_) (.v (.bool false)))) (.e (np [a,b]))),.c (wH _ _ _ af af ae ae:gU 177 [(iP p),(np [a,b])] _),tB 19 (ag:((0:Int) != 0)=false),tB 26 (nx (pS a0):(((gV a.m).length:Int)==0)=false),tB 37 (nx (pS b0):(((gV b.m).length:Int)==0)=false),.c (oD _ af:gU 130 [(gY a)] _),.c (oD _ af:gU 130 [(gY b)] _),tB 48 (aT ht),.c (Jm a b p af af af af af ae ae),tB 61 (nx (pS hz):(((gV (lR a b p)).length:Int)==0)=false),.c (FJ (! (a.neg==(o9 a b p))) (lR a b p) (jm a b p) (mY a b p) up p ae af ae ae ae ae af)]<|rQ (.iw [(gY (jP (!(a.neg==(o9 a b p))) (lR a b p) (jm a b p) (mY a b p) p up)),(iP (jG (!(a.neg==(o9 a b p))) (lR a b p) (jm a b p) (mY a b p) p up))]) (.iw [gY (jj (iI a b) p up),iP (jz (iI a b) p up)]) (by rw[<-q1,<-q2];rfl)) ah 
theorem Wn(a b:Dy)(p:Nat)(up:Bool)(ha:a.ia)(hb:b.ia)(il:8<=p)(ic:p<=512):gU 145 [(gY a),(gY b),(iP p),(bP up)] (.iw [gY (jj (mq a b) p up),iP (jz (mq a b) p up)]):=by
 by_cases a0:a.m=0
 .have e1:mq a b=jA:=by unfold mq;rw[a0,ch];rfl
  exact tr true Tryz.call145 Tryz.func145 (chain [.o 16 (.e (vR _ _):PV.le (.e (.sl true 2 3 fun i_ j_=>(jq a++jq b).getD (i_*3+j_) (.v (.bool false)))) (.e (np [a,b]))),.c (wH _ _ _ af af ae ae:gU 177 [(iP p),(np [a,b])] _),tB 19 (ag:((0:Int) != 0)=false),tB 25 (rX (qT.2 a0):(((gV a.m).length:Int)==0)=true),.o 32 (.e vE:PV.le (.e (.agg [(bP false),(.v (.slice none 0 0)),(iP 0)])) (.e (gY jA)))]<|rQ (.iw [(gY jA),(iP 0)]) (.iw [gY (jj (mq a b) p up),iP (jz (mq a b) p up)]) (by rw[e1,(AD p up).1,(AD p up).2])) ah 
 .by_cases b0:b.m=0
  .have e1:mq a b=jA:=by unfold mq;rw[b0,cr];rfl
   exact tr true Tryz.call145 Tryz.func145 (chain [.o 16 (.e (vR _ _):PV.le (.e (.sl true 2 3 fun i_ j_=>(jq a++jq b).getD (i_*3+j_) (.v (.bool false)))) (.e (np [a,b]))),.c (wH _ _ _ af af ae ae:gU 177 [(iP p),(np [a,b])] _),tB 19 (ag:((0:Int) != 0)=false),tB 25 (nx (pS a0):(((gV a.m).length:Int)==0)=false),tB 30 (rX (qT.2 b0):(((gV b.m).length:Int)==0)=true),.o 32 (.e vE:PV.le (.e (.agg [(bP false),(.v (.slice none 0 0)),(iP 0)])) (.e (gY jA)))]<|rQ (.iw [(gY jA),(iP 0)]) (.iw [gY (jj (mq a b) p up),iP (jz (mq a b) p up)]) (by rw[e1,(AD p up).1,(AD p up).2])) ah 
  .have va:=ha.gV
   have vb:=hb.gV;have xa:=ha.exp;have xb:=hb.exp;have ra:=ha.range.resolve_left a0;have rb:=hb.range.resolve_left b0;have bm:=Z3 a.m b.m;have z1:(gV (a.m*b.m)).length<=256:=nh ae;have m0:a.m*b.m≠0:=dr a0 b0;have h0:a.m*b.m≠0\/a.m*b.m=0/\a.e+b.e=0/\false=false:=.inl m0;have hm:false=true->p<ib (a.m*b.m):=fun h=>by cases h
   obtain⟨q1,q2⟩:=WL (a.neg != b.neg) up (a.m*b.m) (a.e+b.e) p m0;change jj (mq a b) p up=_ at q1;change jz (mq a b) p up=_ at q2;exact tr true Tryz.call145 Tryz.func145 (chain [.o 16 (.e (vR _ _):PV.le (.e (.sl true 2 3 fun i_ j_=>(jq a++jq b).getD (i_*3+j_) (.v (.bool false)))) (.e (np [a,b]))),.c (wH _ _ _ af af ae ae:gU 177 [(iP p),(np [a,b])] _),tB 19 (ag:((0:Int) != 0)=false),tB 25 (nx (pS a0):(((gV a.m).length:Int)==0)=false),tB 30 (nx (pS b0):(((gV b.m).length:Int)==0)=false),.c (yO _ _ ae ae ae:gU 181 [(gX (gV a.m)),(gX (gV b.m))] _),iq (a.e+b.e) ae,.c (FJ (! (a.neg==b.neg)) (a.m*b.m) (a.e+b.e) false up p ae af ae ae ae ae af)]<|rQ (.iw [(gY (jP (!(a.neg==b.neg)) (a.m*b.m) (a.e+b.e) false p up)),(iP (jG (!(a.neg==b.neg)) (a.m*b.m) (a.e+b.e) false p up))]) (.iw [gY (jj (mq a b) p up),iP (jz (mq a b) p up)]) (by rw[q1,q2];rfl)) ah 
theorem aiL(a b:Dy)(p:Nat)(ha:a.ia)(hb:b.ia)(il:8<=p)(ic:p<=512):gU 88 [(gY a),(gY b),(iP p)] (.iw [gY (jj (iI a b) p false),iP (jz (iI a b) p false)]):=by
 exact tr true Tryz.call88 Tryz.func88 (chain [.c (Wh _ _ _ _ af af ae ae:gU 144 [(gY a),(gY b),(iP p),(bP false)] _)]<|.nil) ah 
theorem Wg(a b:Dy)(p:Nat)(ha:a.ia)(hb:b.ia)(il:8<=p)(ic:p<=512):gU 89 [(gY a),(gY b),(iP p)] (.iw [gY (jj (iI a b) p true),iP (jz (iI a b) p true)]):=by
 exact tr true Tryz.call89 Tryz.func89 (chain [.c (Wh _ _ _ _ af af ae ae:gU 144 [(gY a),(gY b),(iP p),(bP true)] _)]<|.nil) ah 
theorem Jj(a b:Dy)(p:Nat)(ha:a.ia)(hb:b.ia)(il:8<=p)(ic:p<=512):gU 92 [(gY a),(gY b),(iP p)] (.iw [gY (jj (mq a b) p false),iP (jz (mq a b) p false)]):=by
 exact tr true Tryz.call92 Tryz.func92 (chain [.c (Wn _ _ _ _ af af ae ae:gU 145 [(gY a),(gY b),(iP p),(bP false)] _)]<|.nil) ah 
theorem Jk(a b:Dy)(p:Nat)(ha:a.ia)(hb:b.ia)(il:8<=p)(ic:p<=512):gU 93 [(gY a),(gY b),(iP p)] (.iw [gY (jj (mq a b) p true),iP (jz (mq a b) p true)]):=by
 exact tr true Tryz.call93 Tryz.func93 (chain [.c (Wn _ _ _ _ af af ae ae:gU 145 [(gY a),(gY b),(iP p),(bP true)] _)]<|.nil) ah 
end Go.Proofs.YtdgnpeddgdclhaaGreatDoor
namespace Go.Proofs.YtdgnpeddgdclhaaGreatDoor.Fp
theorem afU{U V P q:Nat}(hP:0<P)(hV:9223372036854775808<=V/P)(hUV:U<4294967296*V)(h1:q<=4294967295)(h2:q<=U/P/(V/P))(h3:q=4294967295\/U/P/(V/P)<=q):
 U/V<=q/\q<=U/V+1:=by
 have LC:0<V/P:= ae ;have vX:0<V:=by
  apply bE;intro h;have:V=0:= ae ;rw[this,fK]at LC;omega
 have hVm:=bT V P;have hVr:=bg V hP;have hUm:=bT U P;have hUr:=bg U hP;constructor
 .
  rcases h3 with h3|h3
  .have:U/V<4294967296:=by rw[bR vX];exact hUV
   omega
  .refine aX ?_ h3
   rw[cL LC,cL hP,bc];have h4:V/P*P<=V:=cN V P;exact aX (ca _ h4) (cN U V)
 .
  have h4:q*(V/P)<=U/P:=(cL LC).1 h2;have h5:q*V<=q*(V/P)*P+q*P:=by
   have:V<=V/P*P+P:=by rw[a7];omega
   have:=ca q this;rw[bn,<-bc]at this;exact this
  have h6:q*(V/P)*P<=U:=aX (bC P h4) (cN U P);have h7:(q+1)*P<=V/P*P:=bC P ae;have h8:V/P*P<=V:=cN V P;have h9:q*V<U+V:=by
   rw[bK,bI]at h7;omega
  apply bE;intro h;have vV:(U/V+2)*V<=q*V:=bC V ae;have wZ:=bT U V;have h12:=bg U vX;rw[bK,a7 (U/V)]at vV;omega
theorem abp{x v w third q rest:Nat}(hx:q*v+rest=x)(hq:q<=4294967295)(hw:w<4294967296)(hv:0<v)
 (h:4294967296<=rest\/q*w<=rest*4294967296+third):q<=(x*4294967296+third)/(v*4294967296+w):=by
 rw[cL ae,bn,<-hx];have e:q*(v*4294967296)=q*v*4294967296:=by rw[bc]
 rw[e,bK];rcases h with h|h
 .have h1:q*w<=4294967295*4294967295:=cK hq ae 
  omega
 .omega
theorem QP{x v w third q rest:Nat}(hx:q*v+rest=x)(hv:0<v)(h:rest*4294967296+third<q*w):
 (x*4294967296+third)/(v*4294967296+w)<=q-1/\0<q/\(q-1)*v+(rest+v)=x:=by
 have hq:0<q:=by
  apply bE;intro h';have:q=0:= ae ;subst this;rw[ch]at h;omega
 obtain⟨r,rfl⟩:∃ r,q=r+1:=⟨q-1,ae⟩
 refine⟨?_,hq,?_⟩
 .have e1:(r+1)*(v*4294967296+w)=(r+1)*v*4294967296+(r+1)*w:=by rw[bn,<-bc]
  have e2:((r+1)*v+rest)*4294967296=(r+1)*v*4294967296+rest*4294967296:=bK _ _ _;have:(x*4294967296+third)/(v*4294967296+w)<r+1:=by
   have hd:0<v*4294967296+w:= ae ;have e4:x*4294967296=(r+1)*v*4294967296+rest*4294967296:=hx▸e2;refine(bR hd).2 ?_;rw[e1,e4];clear e1 e2 e4 hd hx hq;generalize (r+1)*v=a at *
   generalize (r+1)*w=z at *
   exact Nat.add_lt_add_left h _|>fun h=>by rw[<-cE]at h;exact h
  omega
 .have e3:(r+1)*v=r*v+v:=gr r v
  rw[dE];rw[e3]at hx;clear e3 h hq;generalize r*v=a at *
  omega
theorem abr{x v w third:Nat}(hv:0<v)(ht:third<4294967296):(x*4294967296+third)/(v*4294967296+w)<=x/v:=by
 have h1:(x*4294967296+third)/(v*4294967296+w)<=(x*4294967296+third)/(v*4294967296):=gv ae ae;refine aX h1 ?_;rw[a7 v,<-cz];have:(x*4294967296+third)/4294967296=x:= ae ;rw[this];exact aU _
structure wS(O0:List Nat)(j q:Nat)(V:List Nat)(k:Nat)(O:List Nat)(c b:Nat):Prop where
 len:O.length=O0.length
 ok:iC O
 vl:val O+q*(4294967296^j*val (V.take k))=val O0+4294967296^(j+k)*(c+b)
 qk:∀ i,j+k<=i->O.getD i 0=O0.getD i 0
 Qc:c<4294967296
 PM:b<=1
theorem wS.start{O0:List Nat}(h:iC O0)(j q:Nat)(V:List Nat):wS O0 j q V 0 O0 0 0:=
 ⟨rfl,h,by simp[val],fun _ _=>rfl,ag,ag⟩
theorem ak8{q y c b u:Nat}(hq:q<=4294967295)(hy:y<4294967296)(hc:c<4294967296)(hb:b<=1)(hu:u<4294967296):
 q*y+c<18446744073709551616/\(q*y+c)/4294967296<4294967296 /\
 ((u+18446744073709551616-(q*y+c)%4294967296-b)%18446744073709551616)/9223372036854775808<=1 /\
 ((u+18446744073709551616-(q*y+c)%4294967296-b)%18446744073709551616)%4294967296+(q*y+c)%4294967296+b =
  u+4294967296*(((u+18446744073709551616-(q*y+c)%4294967296-b)%18446744073709551616)/9223372036854775808):=by
 have h1:q*y<=4294967295*4294967295:=cK hq ae;generalize q*y=z at *
 omega
theorem wS.step{O0 V O:List Nat}{j q k c b:Nat}(h:wS O0 j q V k O c b){u' b':Nat}(hk:k<V.length)(hj:j+V.length<O0.length)(hu:u'<4294967296)(hc:(q*V.getD k 0+c)/4294967296<4294967296)(hb:b'<=1)
 (hd:u'+(q*V.getD k 0+c)%4294967296+b=O.getD (j+k) 0+4294967296*b'):
 wS O0 j q V (k+1) (O.set (j+k) u') ((q*V.getD k 0+c)/4294967296) b':=by
 have pY:j+k<O.length:=by rw[h.len];omega
 refine⟨by rw[cv];exact h.len,h.ok.set _ hu,?_,fun i hi=>?_,hc,hb⟩
 .have e:=dq (q*V.getD k 0+c) 4294967296
  have h1:=xG (x:=u') pY;have h2:=h.vl;have h3:u'+(q*V.getD k 0+c)+b=O.getD (j+k) 0+4294967296*((q*V.getD k 0+c)/4294967296+b'):= ae ;have h4:=congrArg (4294967296^(j+k) * ·) h3;simp only[bn]at h4;rw[uE,bn (4294967296^j),bn q,<-bc (4294967296^j),<-aV,show q*(4294967296^(j+k)*V.getD k 0)=4294967296^(j+k)*(q*V.getD k 0)from cD _ _ _,
   show j+(k+1)=j+k+1 from rfl,aZ,bc,bn 4294967296,bn (4294967296^(j+k))]
  rw[bn]at h2;omega
 .rw [uU ae];exact h.qk i ae 
theorem wS.MO{O0 V O:List Nat}{j q c b:Nat}(h:wS O0 j q V V.length O c b)(hj:j+V.length<O0.length){t:Nat}
 (ht:t=(O.getD (j+V.length) 0+18446744073709551616-c-b)%18446744073709551616):
 (O.set (j+V.length) (t%4294967296)).length=O0.length/\iC (O.set (j+V.length) (t%4294967296))/\t/9223372036854775808<=1 /\
 val (O.set (j+V.length) (t%4294967296))+q*(4294967296^j*val V)=val O0+4294967296^(j+V.length+1)*(t/9223372036854775808) /\
 ∀ i,j+V.length<i->(O.set (j+V.length) (t%4294967296)).getD i 0=O0.getD i 0:=by
 have pY:j+V.length<O.length:=by rw[h.len];omega
 have hc:=h.Qc;have hb:=h.PM;have hu:=h.ok.getD (j+V.length);have hd:t%4294967296+c+b=O.getD (j+V.length) 0+4294967296*(t/9223372036854775808):= ae ;refine⟨by rw[cv];exact h.len,h.ok.set _ (bg _ ag),ae,?_,fun i hi=>by rw[uU ae];exact h.qk i ae⟩;have h1:=xG (x:=t%4294967296) pY;have h2:=h.vl;rw[fg]at h2;have h4:=congrArg (4294967296^(j+V.length) * ·) hd;simp only[bn]at h4;rw[aZ,bc];rw[bn]at h2;omega
structure wR(O0:List Nat)(j:Nat)(V:List Nat)(k:Nat)(O:List Nat)(c:Nat):Prop where
 len:O.length=O0.length
 ok:iC O
 vl:val O+4294967296^(j+k)*c=val O0+4294967296^j*val (V.take k)
 qk:∀ i,j+k<=i->O.getD i 0=O0.getD i 0
 Kw:c<=1
theorem wR.start{O0:List Nat}(h:iC O0)(j:Nat)(V:List Nat):wR O0 j V 0 O0 0:=
 ⟨rfl,h,by simp[val],fun _ _=>rfl,ag⟩
theorem wR.step{O0 V O:List Nat}{j k c:Nat}(h:wR O0 j V k O c)(hV:iC V)(hk:k<V.length)(hj:j+V.length<O0.length):
 wR O0 j V (k+1) (O.set (j+k) ((O.getD (j+k) 0+V.getD k 0+c)%4294967296)) ((O.getD (j+k) 0+V.getD k 0+c)/4294967296):=by
 have pY:j+k<O.length:=by rw[h.len];omega
 have hu:=h.ok.getD (j+k);have hy:=hV.getD k;have hc:=h.Kw;refine⟨by rw[cv];exact h.len,h.ok.set _ (bg _ ag),?_,fun i hi=>by rw[uU ae];exact h.qk i ae,ae⟩;have h1:=xG (x:=(O.getD (j+k) 0+V.getD k 0+c)%4294967296) pY;have h2:=h.vl;have h4:=congrArg (4294967296^(j+k) * ·) (dq (O.getD (j+k) 0+V.getD k 0+c) 4294967296);simp only[bn]at h4;rw[uE,bn (4294967296^j),<-bc (4294967296^j),<-aV,show j+(k+1)=j+k+1 from rfl,aZ,bc];omega
theorem wR.MO{O0 V O:List Nat}{j c:Nat}(h:wR O0 j V V.length O c)(hj:j+V.length<O0.length):
 (O.set (j+V.length) ((O.getD (j+V.length) 0+c)%4294967296)).length=O0.length/\iC (O.set (j+V.length) ((O.getD (j+V.length) 0+c)%4294967296)) /\
 (∃ κ,κ<=1/\val (O.set (j+V.length) ((O.getD (j+V.length) 0+c)%4294967296))+4294967296^(j+V.length+1)*κ=val O0+4294967296^j*val V) /\
 ∀ i,j+V.length<i->(O.set (j+V.length) ((O.getD (j+V.length) 0+c)%4294967296)).getD i 0=O0.getD i 0:=by
 have pY:j+V.length<O.length:=by rw[h.len];omega
 have hu:=h.ok.getD (j+V.length);have hc:=h.Kw;refine⟨by rw[cv];exact h.len,h.ok.set _ (bg _ ag),⟨(O.getD (j+V.length) 0+c)/4294967296,ae,?_⟩,fun i hi=>by rw[uU ae];exact h.qk i ae⟩;have h1:=xG (x:=(O.getD (j+V.length) 0+c)%4294967296) pY;have h2:=h.vl;rw[fg]at h2;have h4:=congrArg (4294967296^(j+V.length) * ·) (dq (O.getD (j+V.length) 0+c) 4294967296);simp only[bn]at h4;rw[aZ,bc];omega
theorem JT{O:List Nat}(h:iC O){k:Nat}(hz:∀ i,k<=i->O.getD i 0=0):val O<4294967296^k:=by
 by_cases hk:O.length<=k
 .exact bD (lZ h) (bh ag hk)
 .rw [DK O k ae]
  have:val (O.drop k)=0:=by
   rw[F4];intro x hx;obtain⟨i,hi⟩:=df.1 hx;rw[en]at hi;have:=hz (k+i) ae;rw[aW,hi]at this;exact this
  rw[this,cr,bt];have h1:=lZ (h.take k);rw[bY,cR ae]at h1;exact h1
theorem alh{O:List Nat}(h:iC O){k:Nat}(hv:val O<4294967296^k){i:Nat}(hi:k<=i):O.getD i 0=0:=by
 have h1:val (O.drop k)=0:=by rw[F3 h,bS hv]
 rw[F4]at h1;rw[aW];cases hg:O[i]? with
 |none=>rfl
 |some x=>exact h1 x (df.2 ⟨i-k,by rw[en,show k+(i-k)=i by omega];exact hg⟩)
theorem QQ{u u' V P x:Nat}(hP:0<P)(hV:0<V)(h:u'+x*(P*V)=u)(hx:u/P/V<=x):x=u/P/V/\u'<V*P:=by
 have h1:x*V<=u/P:=by
  rw[cL hP,bc,a7 V P];omega
 have h2:x<=u/P/V:=(cL hV).2 h1;have h3:x=u/P/V:= ae ;refine⟨h3,?_⟩;have e1:=bT u P;have e2:=bg u hP;have e3:=bT (u/P) V;have e4:=bg (u/P) hV;rw[<-h3]at e3;have e5:P*(u/P)=x*(P*V)+P*(u/P%V):=by
  rw[<-e3,bn,e3,a7 V x,cD]
 have e6:P*(u/P%V)+P<=V*P:=by
  rw[a7 V P,<-Nat.mul_succ];exact ca P e4
 omega
theorem abq{u u' u'' V P R x κ:Nat}(hP:0<P)(hV:0<V)(h:u'+x*(P*V)=u+R)(h':u'<R)(hx:x<=u/P/V+1)
 (hk:κ<=1) (h2:u''+R*κ=u'+P*V) (h3:u''<R):0<x/\x-1=u/P/V/\u''+(x-1)*(P*V)=u/\u''<V*P:=by
 have mo:u/P<x*V:=by
  rw[bR hP,bc,a7 V P];omega
 have wB:u/P/V<x:=by rw[bR hV];exact mo
 have q8:x=u/P/V+1:=Nat.le_antisymm hx wB;obtain⟨y,hy⟩:∃ y,y=u/P/V:=⟨_,rfl⟩
 rw[<-hy]at q8;subst q8;rw[dE];have e0:(y+1)*(P*V)=y*(P*V)+P*V:=gr _ _;have e1:y*(P*V)<=u:=by
  have:y*V<=u/P:=by rw[hy];exact cN _ _
  have:=(cL hP).1 this;rw[bc,a7 V P]at this;exact this
 have hκ:κ=1:=by
  apply bE;intro q;obtain rfl:κ=0:= ae ;omega
 subst hκ;have e2:u''+y*(P*V)=u:= ae ;exact⟨ae,hy,e2,(QQ hP hV e2 ae).2⟩
def sG(q rest third v w x:Nat):Prop:=rest+x*v<4294967296/\(rest+x*v)*4294967296+third<(q-x)*w
theorem QN{X q rest third v w:Nat}(hx:q*v+rest=X)(hq:q<=4294967295)(hv:2147483648<=v)(hw:w<4294967296):
 ∃ N,N<=2/\N<=q/\(∀ x,x<N->sG q rest third v w x)/\¬sG q rest third v w N/\q-N<=(X*4294967296+third)/(v*4294967296+w)/\(N=0\/(X*4294967296+third)/(v*4294967296+w)<=q-N):=by
 have stop:∀ {q' r':Nat},q'*v+r'=X->q'<=4294967295->¬(r'<4294967296/\r'*4294967296+third<q'*w)->q'<=(X*4294967296+third)/(v*4294967296+w):=fun {q' r'} h1 h2 h3=>
  abp h1 h2 hw ae (by
   by_cases hr:4294967296<=r'
   .exact .inl hr
   .refine .inr (fi fun hn=>h3 ⟨gw hr,hn⟩))
 by_cases h0:sG q rest third v w 0
 .have g0:=h0
  unfold sG at g0;rw[ch,bt,dh]at g0;obtain⟨k1,k2,k3⟩:=QP hx ae g0.2;by_cases h1:sG q rest third v w 1
  .have g1:=h1
   unfold sG at g1;rw[bI]at g1;obtain⟨l1,l2,l3⟩:=QP k3 ae g1.2;have h2:¬sG q rest third v w 2:=fun h=>by unfold sG at h;omega
   refine⟨2,aU _,ae,fun x hx=>?_,h2,?_,.inr l1⟩
   .obtain rfl|rfl:x=0\/x=1:= ae 
    .exact h0
    .exact h1
   .refine stop (r':=rest+v+v) l3 ae fun h=> ae 
  .refine ⟨1,ag,k2,fun x hx=>?_,h1,?_,.inr k1⟩
   .obtain rfl:x=0:= ae 
    exact h0
   .unfold sG at h1
    rw[bI]at h1;exact stop k3 ae h1
 .refine ⟨0,ag,bL _,fun x hx=>absurd hx (bj x),h0,?_,.inl rfl⟩
  unfold sG at h0;rw[ch,bt,dh]at h0;exact stop hx hq h0
theorem abz{a b s q r:Nat}(hb:0<b)(h:r+b*2^s*q=a*2^s)(hr:r<b*2^s):q=a/b/\r=a%b*2^s:=by
 have hp:0<2^s:=aY ag;have h1:r%2^s=0:=by
  have:=congrArg (· % 2^s) h;simp only[eF]at this;rw[bc,cD,dP]at this;exact this
 obtain⟨t,ht⟩:∃ t,r=t*2^s:=⟨r/2^s,by rw[Nat.div_mul_cancel (Nat.dvd_of_mod_eq_zero h1)]⟩
 subst ht;have h2:(t+b*q)*2^s=a*2^s:=by rw[bK,<-h,fz]
 have h3:=am1 hp h2;have h4:t<b:=am2 hr;constructor
 .rw [<-h3,eB _ _ hb,bS h4,bW]
 .rw [<-h3,dP,bu h4]
theorem XW{O:List Nat}(h:iC O){j n:Nat}(hn:2<=n)(hz:∀ i,j+n<i->O.getD i 0=0):
 val O/4294967296^j/4294967296^(n-2)=(O.getD (j+n) 0*4294967296+O.getD (j+n-1) 0)*4294967296+O.getD (j+n-2) 0:=by
 rw[cz,<-aV,<-F3 h];have e:∀ (l:List Nat),iC l->(∀ i,2<i->l.getD i 0=0)->val l=(l.getD 2 0*4294967296+l.getD 1 0)*4294967296+l.getD 0 0:=by
  intro l hl hz;rcases l with _|⟨a,_|⟨b,_|⟨c,l⟩⟩⟩
  .rfl
  .simp [val]
  .simp [val];omega
  .have:val l=0:=by
    rw[F4];intro x hx;obtain⟨i,hi⟩:=df.1 hx;have:=hz (i+3) ae;rw[aW]at this;simp only[amT,hi]at this;exact this
   simp[val,this];omega
 have g:∀ i,(O.drop (j+(n-2))).getD i 0=O.getD (j+(n-2)+i) 0:=fun i=>by
  rw[aW,en,aW]
 rw[e _ (h.drop _) (fun i hi=>by rw[g];exact hz _ ae),g,g,g];rw[show j+(n-2)+2=j+n by omega,show j+(n-2)+1=j+n-1 by omega,show j+(n-2)+0=j+n-2 by omega]
theorem alf{V:List Nat}(h:iC V){n:Nat}(hn:2<=n)(hl:V.length=n):val V/4294967296^(n-2)=V.getD (n-1) 0*4294967296+V.getD (n-2) 0:=by
 have:=XW (O:=V) h (j:=0) (n:=n) hn (fun i hi=>by rw[aW,bV ae];rfl);rw[bN,dC,bW]at this;rw[this,show V.getD n 0=0 by rw[aW,bV ae];rfl];omega
end Go.Proofs.YtdgnpeddgdclhaaGreatDoor.Fp
namespace Go.Proofs.YtdgnpeddgdclhaaGreatDoor
open Go.RowKit Fp
def Rx(w:World)(b:Nat)(L:List Nat)(R:List Value):Prop:=w.heap[b]? = some (.cells (nZ L++R).toArray 79 (0,0))
section
variable {w w':World} {b:Nat} {L:List Nat} {R:List Value}
theorem Rx.lt(h:Rx w b L R):b<w.heap.size:=(cP.1 h).1
theorem Rx.cell(h:Rx w b L R){i:Nat}(hi:i<L.length):w.cell? ⟨b,i,none⟩=some (.int .u32 (L.getD i 0:Int)):=by
 unfold Rx at h;simp only[World.cell?,h];simp[nZ,hi,fB]
theorem Rx.frozen(h:Rx w b L R)(i:Nat):w.frozen? ⟨b,i,none⟩=false:=by
 unfold Rx at h;simp[World.frozen?,h]
theorem Rx.set(h:Rx w b L R){i:Nat}(hi:i<L.length)(x:Nat):Rx (w.setCell ⟨b,i,none⟩ (.int .u32 (x:Int))) b (L.set i x) R:=by
 unfold Rx at h ⊢;simp only[World.setCell,eG,h];simp[nZ,List.map_set,List.set_append,hi]
theorem Rx.qk(h:Rx w b L R)(hb:w'.heap[b]? = w.heap[b]?):Rx w' b L R:=by unfold Rx at h ⊢;rw[hb];exact h
end
structure sD(b:Nat)(w w':World):Prop where
 below:Below b w w'
 size:w'.heap.size=w.heap.size
 pR:∀ x,x≠b->w'.heap[x]? = w.heap[x]?
theorem sD.refl(b:Nat)(w:World):sD b w w:=⟨Below.refl _ _,rfl,fun _ _=>rfl⟩
theorem sD.FT{b:Nat}{w w':World}(h:sD b w w')(i:Nat)(v:Value):sD b w (w'.setCell ⟨b,i,none⟩ v):=
 ⟨h.below.setCell (p:=⟨b,i,none⟩) (aU _) v,by
  have:(w'.setCell ⟨b,i,none⟩ v).heap.size=w'.heap.size:=by simp[World.setCell]
  rw[this,h.size],fun x hx=>by
  rw[<-h.pR x hx];simp only[World.setCell,eG];rw[aQ (fun e=>hx e.symm)]⟩
def OQ(b:Nat)(A:Option Addr):Prop:=∀ b' o s,A=some ⟨b',o,s⟩->b'≠b
theorem Sl.pR{w w':World}{A:Option Addr}{c b:Nat}{L:List Nat}(h:Sl w A c L)(ha:OQ b A)(ho:sD b w w'):Sl w' A c L:=
 ⟨h.cap,h.qe,h.ok,h.wG,fun i x hx=>by
  obtain⟨b',o,e,h1,h2⟩:=h.cell i x hx;refine⟨b',o,e,by rw[ho.size];exact h1,?_⟩;rw[<-h2];exact(World.cell?_of_block (w:=w) (w':=w') (ho.pR b' (ha _ _ _ e)))⟩
theorem Yq{u m b:Nat}(hm:m<4294967296)(hb:b<=4294967296):
 IntKind.u64.wrap (IntKind.u64.wrap ((u:Int)-(m:Int))-(b:Int))=(((u+18446744073709551616-m-b)%18446744073709551616:Nat):Int):=by
 rw[IntKind.wrap_u64,IntKind.wrap_u64];omega
theorem ak7(b j cu c q:Nat)(O V:List Nat)(R:List Value)(A:Option Addr)(w:World)(hu:Rx w b O R)(hv:Sl w A c V)(hA:OQ b A)(kX:iC O)(hj:j+V.length<O.length)(hq:q<=4294967295)(hl:O.length<=1000000):
 Calls Tryz.prog 341 #[.slice (some ⟨b,j,none⟩) (V.length+1) cu,.slice A V.length c,.int .u64 q] w fun e w'=>∃ (O':List Nat) (δ:Nat),e = .returned (.bool (decide (δ=1)))/\Rx w' b O' R/\O'.length=O.length/\iC O'/\δ<=1 /\
  val O'+q*(4294967296^j*val V)=val O+4294967296^(j+V.length+1)*δ/\(∀ i,j+V.length<i->O'.getD i 0=O.getD i 0)/\sD b w w':=by
 obtain⟨n,hn⟩:∃ n,n=V.length:=⟨_,rfl⟩
 rw[<-hn]at hj ⊢;have HN:=Lib.hid hn;have HJ:=Lib.hid hj;clear hn;have kj:n<=1000000:= ae ;have Ic:j<=1000000:= ae ;clear hj;have HT0:=Lib.hid (wS.start kX j q V);clear kX;have HO:=Lib.hid (sD.refl b w);have HU:=Lib.hid hu;clear hu;go_enter Tryz.func341,Tryz.ntmps341;go_wp2;go_loopw [7,8,9,10,11,12,16] (fun cy bo _ _ _ _ i wr=>∃ (k c' b':Nat) (O':List Nat),k<=n/\i = .int .i64 k/\cy = .int .u64 c'/\bo = .int .u64 b'/\wS O j q V k O' c' b'/\Rx wr b O' R/\sD b w wr) (fun _ _ _ _ _ _ i _=>n-(intOf i).toNat)
 case atStart=>
  exact⟨0,0,0,O,bL _,rfl,rfl,rfl,HT0.out,HU.out,HO.out⟩
 case round=>
  obtain⟨k,c',b',O',hk,rfl,rfl,rfl,ht,hR,ho⟩:=hrel;clear HT0 HO HU;have HTk:=Lib.hid ht;have jc:=ht.PM;have Ep:=ht.Qc;have HOl:=Lib.hid ht.len;clear ht;have Mm:=hv.pR hA ho;by_cases iD:k<n
  .have yr:k<V.length:=by rw[<-HN.out];exact iD
   obtain⟨ab,ao,e1,_,c1⟩:=Mm.lr yr;have px:V.getD k 0<4294967296:=hv.ok.getD k;have TA:V[k]=V.getD k 0:=by simp[aW,yr]
   rw[TA]at c1;have pY:j+k<O'.length:=by rw[HOl.out];have:=HJ.out;omega
   have c2:=hR.cell pY;have c3:=hR.frozen (j+k);have EL:O'.getD (j+k) 0<4294967296:=HTk.out.ok.getD _;obtain⟨sQ,kD,CT,Te⟩:=ak8 hq px Ep jc EL;have HST:=Lib.hid (HTk.out.step (b':=((O'.getD (j+k) 0+18446744073709551616-(q*V.getD k 0+c')%4294967296-b')%18446744073709551616)/9223372036854775808) yr (by rw[<-HN.out];exact HJ.out) (bg _ ag) kD CT Te);have HRS:=Lib.hid (fun x:Nat=>hR.set pY x);have HOS:=Lib.hid (fun(v:Value)=>ho.FT (j+k) v);clear hR ho HTk pY TA yr Te HOl Mm;subst e1;have Ij:q*V.getD k 0<=4294967295*4294967295:=cK hq ae;have yC:IntKind.u64.wrap ((q:Int)*(V.getD k 0:Int))=((q*V.getD k 0:Nat):Int):=by rw[<-dI];exact pB _ ae 
   generalize V.getD k 0=y at *
   generalize q*y=z at *
   have IB:IntKind.u64.wrap ((z:Int)+(c':Int))=((z+c':Nat):Int):=by rw[<-et];exact pB _ ae 
   generalize O'.getD (j+k) 0=u at *
   generalize z+c'=s at *
   have tW:bits .and .u64 (s:Int) 4294967295=((s%4294967296:Nat):Int):=by rw[vJ s ae];omega
   have amq:s%4294967296<4294967296:=bg _ ag;have hd:(s:Int)/4294967296=((s/4294967296:Nat):Int):= ae ;generalize s%4294967296=m at *
   generalize s/4294967296=s2 at *
   have EI:=Yq (u:=u) (m:=m) (b:=b') ae ae;generalize (u+18446744073709551616-m-b')%18446744073709551616=t at *
   have xj:(j:Int)+(k:Int)=((j+k:Nat):Int):= ae ;go_wp2;go_roundw
   case rel=>
    have e1:((t:Int)%4294967296)=((t%4294967296:Nat):Int):= ae ;exact⟨k+1,s2,t/9223372036854775808,O'.set (j+k) (t%4294967296),ae,by go_num,by go_num,by go_num,HST.out,by rw[e1];exact HRS.out _,HOS.out _⟩
   case measure=>simp[intOf];omega
  .obtain rfl:k=n:= ae 
   have L6:j+k<O.length:=HJ.out;have HTk':=Lib.hid (show wS O j q V V.length O' c' b' by rw[<-HN.out];exact HTk.out);have HL:=HTk'.out.MO (t:=(O'.getD (j+k) 0+18446744073709551616-c'-b')%18446744073709551616) (by rw[<-HN.out];exact L6) (by rw[<-HN.out]);rw[<-HN.out]at HL;have HT:=Lib.hid HL;clear HL;have pY:j+k<O'.length:=by rw[HOl.out];exact L6
   have c2:=hR.cell pY;have c3:=hR.frozen (j+k);have EL:O'.getD (j+k) 0<4294967296:=HTk.out.ok.getD _;have HRS:=Lib.hid (fun x:Nat=>hR.set pY x);have HOS:=Lib.hid (fun(v:Value)=>ho.FT (j+k) v);clear hR ho HTk HTk' pY L6 HOl Mm;generalize O'.getD (j+k) 0=u at *
   have EI:=Yq (u:=u) (m:=c') (b:=b') Ep ae;have htl:(u+18446744073709551616-c'-b')%18446744073709551616<18446744073709551616:=bg _ ag;generalize (u+18446744073709551616-c'-b')%18446744073709551616=t at *
   have xj:(j:Int)+(k:Int)=((j+k:Nat):Int):= ae ;go_wp2;go_ret;have e1:((t:Int)%4294967296)=((t%4294967296:Nat):Int):= ae ;obtain⟨t1,t2,t3,t4,t5⟩:=HT.out;exact⟨O'.set (j+k) (t%4294967296),t/9223372036854775808,WJ (a:=(((t:Int)/9223372036854775808)==1)) (by rw[cQ,beq_iff_eq,gl];omega),by rw[e1];exact HRS.out _,t1,t2,t3,t4,t5,HOS.out _⟩
open Go.RowKit Fp
theorem U9(A:Option Addr)(c:Nat)(L:List Nat)(n:Nat)(w:World)(hs:Sl w A c L)(hlen:L.length<=100000000)(hn:n<=65536):
 Calls Tryz.prog 204 #[.slice A L.length c,.int .i64 n] w (fun e w'=>∃ T v,e = .returned v/\val T=val L*2^n/\T.length=n/32+(ik L).length+1/\Ow w' w.heap.size v T/\iy w w'):=by
 have hT:=Lib.hid (uj A c L w hs);have kD:=hs.tE;have ns:=oH L;have hC:=kD.cap;have hL:=hs.qe;unfold lV at ns;have hv:=Lib.hid (ot L);generalize ik L=M at *
 obtain⟨m,hm⟩:∃ m,m=M.length:=⟨_,rfl⟩
 rw[<-hm]at hT ns hC;have HM:=Lib.hid hm;clear hm;have oW:=MX (n/32) (n/32+m+1) ae ae;rw[show((n/32:Nat):Int)=(n:Int)/32 by omega,show((n/32+m+1:Nat):Int)=(n:Int)/32+m+1 by omega]at oW;have Em:=Lib.hid (Ow.xw w w.heap.size (n/32) (n/32+m+1) (aU _) ae ae);go_enter Tryz.func204,Tryz.ntmps204;go_wp2_with fail;refine hT.out.mono ?_;rintro e w' ⟨rfl,rfl⟩;go_wp2;go_loopw [5,6,23] (fun v cy i wr=>∃ (k q:Nat) (O:List Nat),k<=m/\i = .int .i64 k/\cy = .int .u64 q/\q<2^(n%32)/\O.length=n/32+k/\val O+4294967296^(n/32+k)*q=val (M.take k)*2^(n%32)*4294967296^(n/32)/\Ow wr w.heap.size v O/\iy w wr) (fun _ _ i _=>m-(intOf i).toNat)
 case atStart=>
  exact⟨0,0,List.replicate (n/32) 0,bL _,rfl,rfl,aY ag,aj,by simp[y9],Em.out,iy.alloc _ _⟩
 case round=>
  obtain⟨k,q,O,hk,rfl,rfl,hq,hO,kY,lg,hb⟩:=hrel;have HV:=Lib.hid kY;have HO:=Lib.hid hO;have El:O.length<=200000000:= ae ;have tZ:=Lib.hid hq;clear kY hO hq;obtain⟨OA,Oc,rfl,yy⟩:=lg.sl;by_cases iD:k<m
  .have oV:k<M.length:=by have:=HM.out;omega
   obtain⟨ab,ao,rfl,_,c1⟩:=(kD.below hb).lr oV;have mB:M[k]<4294967296:=kD.ok.get oV;have HX:=Lib.hid (Oi (c:=q) (s:=n%32) (n0:=n/32) oV HO.out HV.out);generalize M[k]=x at *
   obtain⟨hw,yD,tw⟩:=Oj x q (n%32) mB (bg _ ag) tZ.out;generalize x*2^(n%32)+q=z at *
   have EO:=Lib.hid tw;clear tw;have lK:O.length+[z%4294967296].length<=10000000000:= av ;go_wp2_with (at_builtin;go_must (refine qW ai _ _ ai w.heap.size _ O ai (lg.alloc _) _ _ _ [z%4294967296] ai ai (Sl.sT _ _ (z%4294967296) ae ae) lK (qd hb.size _) ?_);intro v' w1 oz hg oQ)
   go_roundw
   case rel=>
    exact⟨k+1,z/4294967296,O++[z%4294967296],ae,by go_num,by go_num,EO.out,by rw[cg,HO.out];rfl,HX.out,oz,(hb.trans (iy.alloc _ _)).own _ _ (lg.alloc _) hg⟩
   case measure=>simp[intOf];omega
  .obtain rfl:k=m:= ae 
   have lK:O.length+[q].length<=10000000000:= av ;have Iu:q<4294967296:=by
    have:=tZ.out;have hp:2^(n%32)<=2^31:=bh ag ae;have e31:(2:Nat)^31=2147483648:= ag ;omega
   have Td:(q:Int)%4294967296=q:= ae ;go_wp2_with (at_builtin;go_must (refine qW ai _ _ ai w.heap.size _ O ai (lg.alloc _) _ _ _ [q] ai ai (Sl.sT _ _ q ae ae) lK (qd hb.size _) ?_);intro v' w1 oz hg oQ)
   go_ret;refine⟨O++[q],v',rfl,?_,by rw[cg,HO.out,<-HM.out];rfl,oz,(hb.trans (iy.alloc _ _)).own _ _ (lg.alloc _) hg⟩;have h:=HV.out;rw[ck (by rw[HM.out];exact aU _)]at h;rw[uC,HO.out,qA,y7,cr,bt,h,<-hv.out,nF,bc,<-aV];congr 2;omega
end Go.Proofs.YtdgnpeddgdclhaaGreatDoor
namespace Go.Proofs.YtdgnpeddgdclhaaGreatDoor.Fp
def iA(n k:Nat):Nat:=n/4294967296^k%4294967296
theorem pE(n k:Nat):iA n k<4294967296:=bg _ ag 
theorem AY(k:Nat):iA 0 k=0:=by unfold iA;rw[fK]
theorem pw(k:Nat):0<4294967296^k:=aY ag 
theorem pF{L:List Nat}(h:iC L)(k:Nat):L.getD k 0=iA (val L) k:=by
 unfold iA;rw[<-F3 h];by_cases hk:k<L.length
 .rw [eE hk,show val (L[k]::L.drop (k+1))=L[k]+4294967296*val (L.drop (k+1))from rfl,dP,bu (h.get hk)]
  simp[aW,hk]
 .rw [dQ ae,aW,bV ae];rfl
theorem mod_succ(n k:Nat):n%4294967296^(k+1)=n%4294967296^k+4294967296^k*iA n k:=by
 rw[aZ,fJ];rfl
theorem uO{n k:Nat}(h:n<4294967296^k){j:Nat}(hj:k<=j):iA n j=0:=by
 unfold iA;rw[bS (bD h (bh ag hj))]
def iK(n m:Nat):List Nat:=(List.range m).map (iA n)
theorem mF(n m:Nat):(iK n m).length=m:=by simp[iK]
theorem r9(n m:Nat):iC (iK n m):=fun x hx=>by
 obtain⟨k,_,rfl⟩:=cY.1 hx;exact pE n k
theorem s7{n m k:Nat}(h:k<m):(iK n m).getD k 0=iA n k:=by
 simp[iK,aW,h]
theorem GV(m i:Nat):(iK 0 m).getD i 0=0:=by
 by_cases h:i<m
 .rw [s7 h,AY]
 .rw [aW,bV (by rw[mF];omega)];rfl
theorem abt(n m:Nat):iK n (m+1)=iK n m++[iA n m]:=by simp[iK,List.range_succ]
theorem uD(n m:Nat):val (iK n m)=n%4294967296^m:=by
 induction m with
 |zero=>simp[iK,val];omega
 |succ m ih=>
  rw[abt,uC,ih,mF,mod_succ];rfl
theorem alI{L M:List Nat}(hL:iC L)(hM:iC M)(hl:L.length=M.length)(hv:val L=val M):L=M:=by
 apply gy hl;intro i h1 h2;have e1:=pF hL i;have e2:=pF hM i;rw[hv,<-e2]at e1;simpa[aW,h1,h2]using e1
theorem abu{L:List Nat}(h:iC L):iK (val L) L.length=L:=
 alI (r9 _ _) h (mF _ _) (by rw[uD,bu (lZ h)])
theorem Cq{L:List Nat}{n m:Nat}(h:iC L)(hl:L.length=m)(hv:val L=n):iK n m=L:=by subst hl hv;exact abu h
theorem B6{n m:Nat}(h:n<4294967296^m):ik (iK n m)=gV n:=by
 rw[qy (r9 n m),uD,bu h]
theorem KK(n:Nat):iK n (gV n).length=gV n:=Cq (kA n) rfl (jD n)
def kF(a b k m:Nat):List Nat:=(List.range m).map fun j=>if j<k then iA a j else iA b j
theorem ui(a b k m:Nat):(kF a b k m).length=m:=by simp[kF]
theorem agB{a b k m j:Nat}(h:j<m):(kF a b k m).getD j 0=if j<k then iA a j else iA b j:=by
 simp[kF,aW,h]
theorem E6{a b k m:Nat}(h:k<m):(kF a b k m).getD k 0=iA b k:=by rw[agB h,aQ (fj k)]
theorem E7(a b m:Nat):kF a b 0 m=iK b m:=by simp[kF,iK]
theorem IV{a b k m:Nat}(h:m<=k):kF a b k m=iK a m:=by
 unfold kF iK;exact e9 fun j hj=>aR (bD (bJ.1 hj) h)
theorem IW{a b k m:Nat}:(kF a b k m).set k (iA a k)=kF a b (k+1) m:=by
 apply gy
 .simp [kF]
 .intro j h1 h2
  have hj:j<m:=by simpa[kF]using h2
  rw[amP];by_cases h:k=j
  .subst h;simp[kF]
  .rw [aQ h]
   simp only[kF,gz,amQ];by_cases q:j<k
   .rw [aR q,aR ae]
   .rw [aQ q,aQ ae]
theorem agC{a b k m:Nat}:(kF a b (k+1) m).set k (iA b k)=kF a b k m:=by
 apply gy
 .simp [kF]
 .intro j h1 h2
  have hj:j<m:=by simpa[kF]using h2
  rw[amP];by_cases h:k=j
  .subst h;simp[kF]
  .rw [aQ h]
   simp only[kF,gz,amQ];by_cases q:j<k
   .rw [aR q,aR ae]
   .rw [aQ q,aQ ae]
theorem KN(a k:Nat):a/4294967296^k=4294967296*(a/4294967296^(k+1))+iA a k:=by
 rw[aZ,<-cz];unfold iA;omega
theorem akf{a d k:Nat}(hd:0<d)(tg:d<4294967296):(a/4294967296^(k+1)%d*4294967296+iA a k)/d=iA (a/d) k/\(a/4294967296^(k+1)%d*4294967296+iA a k)%d=a/4294967296^k%d:=by
 have e1:=KN a k;have e2:=bT (a/4294967296^(k+1)) d;have e3:=bg (a/4294967296^(k+1)) hd;have e4:=pE a k;have e5:a/4294967296^k=d*(4294967296*(a/4294967296^(k+1)/d))+(a/4294967296^(k+1)%d*4294967296+iA a k):=by
  rw[e1,cD];omega
 have e6:(a/4294967296^(k+1)%d*4294967296+iA a k)/d<4294967296:=by
  rw[bR hd];have:=bC 4294967296 (show a/4294967296^(k+1)%d+1<=d from e3);omega
 constructor
 .conv=>rhs;unfold iA
  rw[cz,a7 d,<-cz,e5,c9 hd,dw,bu e6]
 .rw [e5,dw]
theorem Ro{a b N:Nat}(ha:a<4294967296^N)(hb:b<4294967296^N)(h:∀ i,i<N->iA a i=iA b i):a=b:=by
 have e1:val (iK a N)=a:=by rw[uD,bu ha]
 have e2:val (iK b N)=b:=by rw[uD,bu hb]
 rw[<-e1,<-e2];congr 1;exact e9 fun j hj=>h j (bJ.1 hj)
theorem abB{a b N j:Nat}(ha:a<4294967296^N)(hb:b<4294967296^N)(h:∀ i,j<=i->iA a i=iA b i):a/4294967296^j=b/4294967296^j:=by
 have e:∀ (n i:Nat),iA (n/4294967296^j) i=iA n (j+i):=fun n i=>by unfold iA;rw[cz,<-aV]
 refine Ro (N:=N) (bQ (bw _ _) ha) (bQ (bw _ _) hb) fun i _=>?_
 rw[e,e];exact h _ ae 
theorem Uy{a b N j:Nat}(ha:a<4294967296^N)(hb:b<4294967296^N)(h:∀ i,j<i->iA a i=iA b i)(hd:iA a j<iA b j):a<b:=by
 have e:=abB (j:=j+1) ha hb fun i hi=>h i hi
 have e1:=KN a j;have e2:=KN b j;have:a/4294967296^j<b/4294967296^j:= ae ;exact gw fun hle=>by
  have:=Nat.div_le_div_right (c:=4294967296^j) hle;omega
theorem PY{n k:Nat}(h:n<4294967296^(k+1))(hd:iA n k≠0):ib n=32*k+ib (iA n k):=by
 have e1:iA n k=n/4294967296^k:=by
  unfold iA;rw[bu];rw[bR (pw k),a7 4294967296,<-aZ];exact h
 have h1:=rB hd;have h2:=oN (iA n k);have h3:=mS hd;obtain⟨m,hm⟩:∃ m,ib (iA n k)=m+1:=⟨ib (iA n k)-1,ae⟩
 rw[hm]at h1 h2 ⊢;rw[dE]at h1;rw[<-cE];have hp:(4294967296:Nat)^k=2^(32*k):=nF k;refine uJ ?_ ?_
 .rw [e1,cL (pw k),hp,<-aV,dV]at h1;exact h1
 .rw [e1,bR (pw k),hp,<-aV,show m+1+32*k=32*k+m+1 by omega]at h2;exact h2
def jy(a b k:Nat):Nat:=(a%4294967296^k+b%4294967296^k)/4294967296^k
theorem GK(a b:Nat):jy a b 0=0:=by unfold jy;simp[cH]
theorem s5(a b k:Nat):jy a b k<=1:=by
 unfold jy;have h1:=bg a (pw k);have h2:=bg b (pw k);have:(a%4294967296^k+b%4294967296^k)/4294967296^k<2:=by rw[bR (pw k)];omega
 omega
theorem Kb(a b k:Nat):(a+b)/4294967296^k=a/4294967296^k+b/4294967296^k+jy a b k:=by
 unfold jy;have h1:=bT a (4294967296^k);have h2:=bT b (4294967296^k);have h3:=c9 (pw k) (a/4294967296^k+b/4294967296^k) (a%4294967296^k+b%4294967296^k);rw[<-h3];congr 1;rw[bn];omega
theorem xO(a b k:Nat):iA a k+iA b k+jy a b k=iA (a+b) k+4294967296*jy a b (k+1):=by
 have h1:jy a b (k+1)=(iA a k+iA b k+jy a b k)/4294967296:=by
  conv=>lhs;unfold jy
  rw[mod_succ,mod_succ,aZ,<-cz];congr 1;have h3:=c9 (pw k) (iA a k+iA b k) (a%4294967296^k+b%4294967296^k);unfold jy;rw[<-h3];congr 1;rw[bn];omega
 have h2:iA (a+b) k=(iA a k+iA b k+jy a b k)%4294967296:=by
  conv=>lhs;unfold iA
  rw[Kb];unfold iA;omega
 rw[h1,h2];exact(dq _ _).symm
theorem aaW{a b k:Nat}(h:a+b<4294967296^k):jy a b k=0:=by
 have h0:=Kb a b k;rw[bS h]at h0;exact(Nat.add_eq_zero_iff.1 h0.symm).2
theorem aaX{a b k:Nat}(ha:a<4294967296^k)(hb:b<4294967296^k):jy a b (k+1)=0:=by
 apply aaW;rw[aZ];omega
theorem XA{a b:Nat}(h:b<=a)(k:Nat):iA a k+4294967296-iA b k-jy (a-b) b k=iA (a-b) k+4294967296*(1-jy (a-b) b (k+1)):=by
 have h1:=xO (a-b) b k;rw[eD h]at h1;have h2:=s5 (a-b) b (k+1);have h3:=pE b k;have h4:=s5 (a-b) b k;have h5:=pE (a-b) k;omega
theorem akh(n s k:Nat):iA (n/2^s) k=((iA n (k+s/32)+4294967296*iA n (k+s/32+1))/2^(s%32))%4294967296:=by
 have e:2^s*4294967296^k=4294967296^(k+s/32)*2^(s%32):=by
  rw[nF,nF,<-aV,<-aV];congr 1;omega
 unfold iA;rw[cz,e,<-cz,aZ,<-cz];generalize n/4294967296^(k+s/32)=N;have hr:s%32<32:=bg _ ag;generalize s%32=r at *
 have h1:N%4294967296+4294967296*(N/4294967296%4294967296)=N%(4294967296*4294967296):=(fJ).symm;rw[h1];have h2:N=4294967296*(N/(4294967296*4294967296))*4294967296+N%(4294967296*4294967296):=by
  have:=bT N (4294967296*4294967296);omega
 have h3:(4294967296:Nat)=2^r*2^(32-r):=by rw[<-aV,show r+(32-r)=32 by omega]
 generalize N%(4294967296*4294967296)=u at *
 generalize N/(4294967296*4294967296)=t at *
 have h4:N/2^r=4294967296*(t*2^(32-r))+u/2^r:=by
  rw[h2];have e2:4294967296*t*4294967296=2^r*(4294967296*(t*2^(32-r))):=by
   conv=>lhs;rw[a7]
   conv=>lhs;lhs;rw[h3]
   rw[bc,cD (2^(32-r)),a7 (2^(32-r)) t]
  rw[e2,c9 (aY ag)]
 rw[h4,dw]
theorem ake{O:List Nat}{P x n k m:Nat}(hx:x<4294967296)(hO:O=iK (P*2^n) m)(hP:P<4294967296^k)(hm:k+n/32+1<m):
 (O.getD (k+n/32) 0)<2^(n%32)/\((O.set (k+n/32) (O.getD (k+n/32) 0+x*2^(n%32)%4294967296)).set (k+n/32+1) (x*2^(n%32)/4294967296))=iK ((P+4294967296^k*x)*2^n) m:=by
 have hr:n%32<32:=bg _ ag;have hq:(2:Nat)^n=2^(n%32)*4294967296^(n/32):=by rw[nF,<-aV];congr 1;omega
 have xZ:2^(n%32)<=2^31:=bh ag ae;have Ek:(2:Nat)^31=2147483648:= ag ;have qa:0<2^(n%32):=aY ag;have kX:iC O:=by rw[hO];exact r9 _ _
 have hlen:O.length=m:=by rw[hO,mF]
 have hN:P*2^n<4294967296^(k+n/32)*2^(n%32):=by
  have h1:P*2^(n%32)<4294967296^k*2^(n%32):=cC hP qa;have h2:=cC h1 (pw (n/32));rw[hq,<-bc,aV,fz (4294967296^k)];exact h2
 have tc:P*2^n<4294967296^(k+n/32+1):=by
  rw[aZ];exact bD hN (ca _ ae)
 have o1:O.getD (k+n/32) 0=P*2^n/4294967296^(k+n/32):=by
  rw[hO,s7 ae];unfold iA;rw[bu];rw[bR (pw _),a7 4294967296,<-aZ];exact tc
 have o2:O.getD (k+n/32+1) 0=0:=by rw[hO,s7 hm];exact uO tc (aU _)
 have o3:O.getD (k+n/32) 0<2^(n%32):=by
  rw[o1,bR (pw _),a7 (2^(n%32))];exact hN
 refine⟨o3,?_⟩;have q8:x*2^(n%32)<4294967296*2^(n%32):=cC hx qa;have zU:O.getD (k+n/32) 0+x*2^(n%32)%4294967296<4294967296:=by
  have h3:(4294967296:Nat)=2^(n%32)*2^(32-n%32):=by rw[<-aV,show n%32+(32-n%32)=32 by omega]
  have h4:x*2^(n%32)%4294967296=2^(n%32)*(x%2^(32-n%32)):=by
   conv=>lhs;rw[a7];rhs;rw[h3]
   exact gp _ _ _
  have h5:x%2^(32-n%32)<2^(32-n%32):=bg _ (aY ag);have h6:=ca (2^(n%32)) (show x%2^(32-n%32)+1<=2^(32-n%32)from h5);rw[<-h3,bn,bO]at h6;omega
 have oh:k+n/32<O.length:= ae ;have xn:=xG (x:=O.getD (k+n/32) 0+x*2^(n%32)%4294967296) oh;have sO:k+n/32+1<(O.set (k+n/32) (O.getD (k+n/32) 0+x*2^(n%32)%4294967296)).length:=by rw[cv];omega
 have rV:=xG (x:=x*2^(n%32)/4294967296) sO;rw[uU ae,o2,cr,bt]at rV;refine(Cq ((kX.set _ zU).set _ ?_) (by rw[cv,cv,hlen]) ?_).symm
 .rw [bR ag]
  exact bD q8 (ca _ ae)
 .have rU:val O=P*2^n:=by
   rw[hO,uD,bu];exact bD tc (bh ag ae)
  rw[rV];rw[rU,bn]at xn;have e1:=dq (x*2^(n%32)) 4294967296;have e2:=congrArg (4294967296^(k+n/32) * ·) e1;simp only[bn]at e2;have e3:4294967296^(k+n/32)*(x*2^(n%32))=4294967296^k*x*2^n:=by
   rw[hq,aV];simp only[bc,a7,cD]
  rw[aZ,bc,bK];rw[e3]at e2;omega
def lP(r b k:Nat):Nat:=(2*(r%4294967296^k)+b)/4294967296^k
theorem KJ(r b:Nat):lP r b 0=b:=by unfold lP;simp[cH]
theorem GS{r b:Nat}(hb:b<=1)(k:Nat):lP r b k<=1:=by
 unfold lP;have h1:=bg r (pw k);have:(2*(r%4294967296^k)+b)/4294967296^k<2:=by rw[bR (pw k)];omega
 omega
theorem GU{r b:Nat}(hb:b<=1)(k:Nat):iA (2*r+b) k=2*iA r k%4294967296+lP r b k/\lP r b (k+1)=iA r k/2147483648:=by
 have h1:(2*r+b)/4294967296^k=2*(r/4294967296^k)+lP r b k:=by
  unfold lP;have h1:=bT r (4294967296^k);have h3:=c9 (pw k) (2*(r/4294967296^k)) (2*(r%4294967296^k)+b);rw[<-h3];congr 1;rw[cD];omega
 have h2:=GS (r:=r) hb k;have h3:lP r b (k+1)=(2*iA r k+lP r b k)/4294967296:=by
  conv=>lhs;unfold lP
  rw[mod_succ,aZ,<-cz];congr 1;have h3:=c9 (pw k) (2*iA r k) (2*(r%4294967296^k)+b);unfold lP;rw[<-h3];congr 1;rw[cD];omega
 have h4:iA (2*r+b) k=(2*iA r k+lP r b k)%4294967296:=by
  conv=>lhs;unfold iA
  rw[h1];unfold iA;omega
 have h5:=pE r k;constructor
 .rw [h4];omega
 .rw [h3];omega
structure r7(U0:Nat)(V:List Nat)(k m:Nat)(O Q:List Nat):Prop where
 Ue:O.length=m
 EW:Q.length=m-V.length
 yQ:iC O
 BL:iC Q
 eq:val O+val V*val Q=U0
 lt:val O<val V*4294967296^k
 qz:∀ i,i<k->Q.getD i 0=0
theorem r7.step{U0 k m x:Nat}{V O Q O2:List Nat}(h:r7 U0 V (k+1) m O Q)(hk:k<m-V.length)(hl:O2.length=m)(kX:iC O2)(hx:x<4294967296)
 (he:val O2+x*(4294967296^k*val V)=val O) (iD:val O2<val V*4294967296^k):r7 U0 V k m O2 (Q.set k x):=by
 have yp:k<Q.length:=by rw[h.EW];exact hk
 have hv:=xG (x:=x) yp;rw[h.qz k (Nat.lt_succ_self k),cr,bt]at hv;refine⟨hl,by rw[cv];exact h.EW,kX,h.BL.set _ hx,?_,iD,fun i hi=>by rw[uU ae];exact h.qz i ae⟩;rw[hv,bn,show val V*(4294967296^k*x)=x*(4294967296^k*val V)by simp only[a7,cD,bc]];have:=h.eq;omega
theorem r7.zero{U0 k m:Nat}{V O Q:List Nat}(h:r7 U0 V (k+1) m O Q)(hV:iC V){i:Nat}(hi:k+V.length<i):O.getD i 0=0:=by
 refine alh h.yQ (k:=k+V.length+1) ?_ hi;refine fk h.lt ?_;have:=cC (lZ hV) (pw (k+1));rw[<-aV,show V.length+(k+1)=k+V.length+1 by omega]at this;exact this
theorem r7.ad2{U0 k m:Nat}{V O Q:List Nat}(h:r7 U0 V (k+1) m O Q)(hV:iC V)(hn:2<=V.length)(hN:2147483648<=V.getD (V.length-1) 0):
 O.getD (k+V.length) 0<=V.getD (V.length-1) 0/\∀ g,g<=4294967295 ->
  g<=((O.getD (k+V.length) 0*4294967296+O.getD (k+V.length-1) 0)*4294967296+O.getD (k+V.length-2) 0)/(V.getD (V.length-1) 0*4294967296+V.getD (V.length-2) 0) ->
  (g=4294967295\/((O.getD (k+V.length) 0*4294967296+O.getD (k+V.length-1) 0)*4294967296+O.getD (k+V.length-2) 0)/(V.getD (V.length-1) 0*4294967296+V.getD (V.length-2) 0)<=g) ->
  val O/4294967296^k/val V<=g/\g<=val O/4294967296^k/val V+1:=by
 have t3:=XW h.yQ (j:=k) hn (fun i hi=>h.zero hV hi);have t2:=alf hV hn rfl;have hU:val O/4294967296^k<4294967296*val V:=by
  rw[bR (pw k)];have:=h.lt;rw[aZ]at this;rw[show 4294967296*val V*4294967296^k=val V*(4294967296^k*4294967296)by simp only[a7,cD,bc]];exact this
 have w1:=h.yQ.getD (k+V.length-1);have w2:=h.yQ.getD (k+V.length-2);have w3:=hV.getD (V.length-2);refine⟨?_,fun g g1 g2 g3=>?_⟩
 .have hP:=pw (V.length-2)
  have h1:val V<(V.getD (V.length-1) 0*4294967296+V.getD (V.length-2) 0+1)*4294967296^(V.length-2):=by
   rw[<-t2,<-bR hP];omega
  have h2:val O/4294967296^k/4294967296^(V.length-2)<4294967296*(V.getD (V.length-1) 0*4294967296+V.getD (V.length-2) 0+1):=by
   rw[bR hP];refine bD hU ?_;rw[bc];exact ca _ (cW h1)
  rw[t3]at h2;omega
 .rw [<-t3,<-t2]at g2 g3
  exact afU (pw _) (by rw[t2];omega) hU g1 g2 g3
theorem r7.Vt{U0 k m x:Nat}{V O Q O':List Nat}(h:r7 U0 V (k+1) m O Q)(hV:iC V)(kX:iC O')(hv:val O'+x*(4294967296^k*val V)=val O+4294967296^(k+V.length+1)*1)
 (hs:∀ i,k+V.length<i->O'.getD i 0=O.getD i 0):val O'<4294967296^(k+V.length+1)/\0<x:=by
 have h1:val O'<4294967296^(k+V.length+1):=JT kX fun i hi=>by rw[hs i ae];exact h.zero hV ae 
 refine⟨h1,?_⟩;rcases dW x with h0|h0
 .subst h0;rw[ch]at hv;omega
 .exact h0
theorem r7.ZN{U0 k m x κ:Nat}{V O Q O' O2:List Nat}(h:r7 U0 V (k+1) m O Q)(hV:iC V)(hk:k<m-V.length)(kX:iC O')(hv:val O'+x*(4294967296^k*val V)=val O+4294967296^(k+V.length+1)*1)
 (hs:∀ i,k+V.length<i->O'.getD i 0=O.getD i 0) (hx:x<=4294967295) (q8:x<=val O/4294967296^k/val V+1) (vX:0<val V) (ns:O2.length=m) (Ir:iC O2) (hκ:κ<=1)
 (h2:val O2+4294967296^(k+V.length+1)*κ=val O'+4294967296^k*val V) (kD:∀ i,k+V.length<i->O2.getD i 0=O'.getD i 0):r7 U0 V k m O2 (Q.set k (x-1)):=by
 obtain⟨h1,h0⟩:=h.Vt hV kX hv hs;have h3:val O2<4294967296^(k+V.length+1):=JT Ir fun i hi=>by rw[kD i ae,hs i ae];exact h.zero hV ae 
 rw[bO]at hv;obtain⟨_,_,e,l⟩:=abq (pw k) vX hv h1 q8 hκ h2 h3;exact h.step (x:=x-1) hk ns Ir ae e l
theorem aha{L:List Nat}{x s l:Nat}(hk:iC L)(hl:L.length=l+1)(hx:L.getD l 0=x)(mo:x≠0)(hs:s=32-ib x):
 s<32/\(gV (val L*2^s)).length=l+1/\2147483648<=(gV (val L*2^s)).getD l 0/\4294967296^l*2147483648<=val L*2^s/\val L*2^s<4294967296^(l+1):=by
 have mB:x<4294967296:=by rw[<-hx];exact hk.getD l
 have jc:=mS mo;have me:ib x<=32:=kO.2 mB;have h1:=rB mo;have h2:=oN x;have e1:2^(ib x-1)*2^s=2147483648:=by rw[<-aV,show ib x-1+s=31 by omega]
 have e2:2^ib x*2^s=4294967296:=by rw[<-aV,show ib x+s=32 by omega]
 have hp:0<2^s:=aY ag;have hv:val L=val (L.take l)+4294967296^l*x:=by
  have:=uE L l;rw[ck ae,hx]at this;exact this
 have zU:val (L.take l)<4294967296^l:=by
  have:=lZ (hk.take l);rw[bY,cR ae]at this;exact this
 have g1:4294967296^l*2147483648<=val L*2^s:=by
  rw[<-e1,<-bc];refine bC _ ?_;rw[hv];exact aX (ca _ h1) (Nat.le_add_left _ _)
 have g2:val L*2^s<4294967296^(l+1):=by
  have e3:4294967296^(l+1)=4294967296^l*(2^ib x*2^s):=by rw[aZ,e2]
  rw[e3,<-bc];refine cC ?_ hp;rw[hv];have:=ca (4294967296^l) (show x+1<=2^ib x from h2);rw[bn,bO]at this;omega
 have hlen:(gV (val L*2^s)).length=l+1:=by
  have u1:=q9 g2;have u2:¬(gV (val L*2^s)).length<=l:=fun h=>by
   have:=uh h;have:=pw l;omega
  omega
 refine⟨ae,hlen,?_,g1,g2⟩;rw[pF (kA _),jD];unfold iA;rw[bu (by rw[bR (pw l),a7 4294967296,<-aZ];exact g2),cL (pw l),a7];exact g1
theorem r7.start{A s:Nat}{V O:List Nat}(hO:iC O)(hv:val O=A*2^s){la:Nat}(hA:A<4294967296^la)(hl:O.length=la+1)(hs:s<32)(hn:1<=V.length)(kj:V.length<=la)(hV:4294967296^(V.length-1)*2147483648<=val V):
 r7 (A*2^s) V (la+1-V.length) (la+1) O (List.replicate (la+1-V.length) 0):=by
 refine⟨hl,aj,hO,iC.BS _,by rw[y9,cr,bt,hv],?_,fun i _=>?_⟩
 .rw [hv]
  have xZ:2^s<=2^31:=bh ag ae;have Ek:(2:Nat)^31=2147483648:= ag ;rw[Ek]at xZ;have h1:A*2^s<4294967296^la*2^s:=cC hA (aY ag);have h2:=ca (4294967296^la) xZ;have h3:=bC (4294967296^(la+1-V.length)) hV;rw[fz,<-aV,show V.length-1+(la+1-V.length)=la by omega]at h3;omega
 .rw [aW,fG];split<;>rfl
end Go.Proofs.YtdgnpeddgdclhaaGreatDoor.Fp
namespace Go.Proofs.YtdgnpeddgdclhaaGreatDoor
open Go.RowKit Fp Pu
theorem AI{n:Nat}{L:List Nat}(h:n=L.length):(E.sl false n 1 (jb L))=gX L:=by subst h;rfl
theorem DJ(n:Nat)(h:n<18446744073709551616):bits .and .u64 (n:Int) 4294967295=((n%4294967296:Nat):Int):=by
 have:=OG n 4294967295 h ag;rw[show((4294967295:Int))=((4294967295:Nat):Int)from rfl,this];exact congrArg _ (amG n 32)
theorem JN(n:Nat)(h:n<4294967296):bits .and .u32 (n:Int) 1=((n%2:Nat):Int):=by
 have:=bits_and_u32_nat n 1 h ag;rw[show((1:Int))=((1:Nat):Int)from rfl,this];exact congrArg _ (gi n)
theorem DB(n:Nat)(h:n<4294967296):IntKind.u64.wrap ((n:Int)*2^32)=((n*4294967296:Nat):Int):=by rw[IntKind.wrap_u64];omega
theorem Ft(a b:Nat)(ha:a<4294967296)(hb:b<4294967296):bits .or .u64 ((a*4294967296:Nat):Int) (b:Int)=((a*4294967296+b:Nat):Int):=by
 rw[JO _ _ ae ae,fF,show a*4294967296=a*2^32 by rfl,Ar b a 32 (by simpa using hb),dV]
theorem Dv{T n n' p:Nat}{L L':List Nat}{z:Nat}(hn:n=n')(hp:p<L.length)(hs:L.set p z=L'):Bx.le (.row false T n 1 fun i' j'=>if i'=p/\0<=j'/\j'<0+1 then[.v (.int .u32 (z:Int))].getD (j'-0) .any else(jb L) i' j') (.row false T n' 1 (jb L')):=hs▸N4 hn hp
theorem Ai{T n n':Nat}{N:Nat}{z:Int}(hn:n'=n+1)(hz:z=(iA N n:Int)):
 Bx.le (.row false T (n+1) 1 fun i_ j_=>if i_<n then(jb (iK N n)) i_ j_ else(E.mc (.sl false 1 1 fun i_ j_=>[(.v (.int .u32 z))].getD (i_*1+j_) (.v (.bool false)))) (i_-n) j_) (.row false T n' 1 (jb (iK N n'))):=by
 subst hn hz;refine .row rfl fun i j hi hj=>?_
 obtain rfl:j=0:= ae ;refine⟨.iU ?_,rfl⟩;by_cases h:i<n
 .rw [aR h]
  show E.v (.int .u32 (((iK N n).getD i 0:Nat):Int))=E.v (.int .u32 (((iK N (n+1)).getD i 0:Nat):Int));rw[s7 h,s7 hi]
 .obtain rfl:i=n:= ae 
  rw[aQ (fj i)];show E.mc _ (i-i) 0=E.v (.int .u32 (((iK N (i+1)).getD i 0:Nat):Int));rw[s7 (Nat.lt_succ_self i),cT];rfl
open Go.RowKit Fp Pu
def QK(q rest third v w:Nat)(x:Nat):PS:=⟨32,true,[(0,.e (.v (.int .u64 (((q-x):Nat):Int)))),(1,.e (.v (.int .u64 (((rest+(x*v)):Nat):Int)))),(2,.e (.v (.int .u32 (third:Int)))),(3,.e (.v (.int .u32 (v:Int)))),(4,.e (.v (.int .u32 (w:Int))))],[]⟩
def Xf(L:List Nat)(d:Nat)(x:Nat):PS:=⟨34,false,[(8,.e (iP ((L.length:Int)-1-(x:Int)))),(7,.e (.v (.int .u32 (((val L/4294967296^(L.length-x)%d):Nat):Int)))),(6,.own 11),(0,.e (gX L)),(1,.e (.v (.int .u32 (d:Int))))],[(11,.row false 79 L.length 1 (jb (kF 0 (val L/d) (L.length-x) L.length)))]⟩
theorem abv(h l d:Nat)(h1:h<d)(h2:l<4294967296)(h3:d<4294967296):gU 344 [(.v (.int .u32 (h:Int))),(.v (.int .u32 (l:Int))),(.v (.int .u32 (d:Int)))] (.iw [.v (.int .u32 ((((h*4294967296+l)/d:Nat)):Int)),.v (.int .u32 ((((h*4294967296+l)%d:Nat)):Int))]):=by
 have e1:(h*4294967296+l)/d<4294967296:=by rw[bR ae];omega
 have e2:(h*4294967296+l)%d<4294967296:=fk (bg _ ae) h3;exact tr true Tryz.call344 Tryz.func344 (chain [tB 10 (av:((d:Int) != 0)=true),tF 14 ((d:Int)<=(h:Int)) ae,.o 18 (.int (pB _ ae):PV.le (.e (.v (.int .u64 (IntKind.u64.wrap (h:Int))))) (.e (.v (.int .u64 (h:Int))))),.a (ae:0<=(32:Int)/\(32:Int)<=((64:Nat):Int)),.o 19 (.int (DB _ ae):PV.le (.e (.v (.int .u64 (IntKind.u64.wrap ((h:Int)*2^32))))) (.e (.v (.int .u64 (((h*4294967296):Nat):Int))))),.o 21 (.int (pB _ ae):PV.le (.e (.v (.int .u64 (IntKind.u64.wrap (l:Int))))) (.e (.v (.int .u64 (l:Int))))),.o 22 (.int (Ft _ _ ae ae):PV.le (.e (.v (.int .u64 (bits .or .u64 (((h*4294967296):Nat):Int) (l:Int))))) (.e (.v (.int .u64 (((h*4294967296+l):Nat):Int))))),.o 25 (.int (pB _ ae):PV.le (.e (.v (.int .u64 (IntKind.u64.wrap (d:Int))))) (.e (.v (.int .u64 (d:Int))))),.a (ae:0<((d:Int):Int)),
  pd ((((h*4294967296+l):Nat):Int)) ae,.o 27 (.int (uA _):PV.le (.e (.v (.int .u32 (IntKind.u32.wrap ((((h*4294967296+l)/d):Nat):Int))))) (.e (.v (.int .u32 (((((h*4294967296+l)/d)%4294967296):Nat):Int))))),.o 30 (.int (pB _ ae):PV.le (.e (.v (.int .u64 (IntKind.u64.wrap (d:Int))))) (.e (.v (.int .u64 (d:Int))))),.a (ae:0<((d:Int):Int)),.o 32 (.int (uA _):PV.le (.e (.v (.int .u32 (IntKind.u32.wrap ((((h*4294967296+l)%d):Nat):Int))))) (.e (.v (.int .u32 (((((h*4294967296+l)%d)%4294967296):Nat):Int)))))]<|rQ (.iw [(.v (.int .u32 (((((h*4294967296+l)/d)%4294967296):Nat):Int))),(.v (.int .u32 (((((h*4294967296+l)%d)%4294967296):Nat):Int)))]) (.iw [.v (.int .u32 ((((h*4294967296+l)/d:Nat)):Int)),.v (.int .u32 ((((h*4294967296+l)%d:Nat)):Int))]) (by rw[bu e1,bu e2])) ah 
theorem amA(q rest third v w N:Nat)(hq:q<=4294967295)(hr:rest<9223372036854775808)(ht:third<4294967296)(hv:v<4294967296)(hw:w<4294967296)(hNq:N<=q)(iH:∀ x,x<N->sG q rest third v w x)(g1:¬rest+N*v<4294967296):gU 345 [(.v (.int .u64 (q:Int))),(.v (.int .u64 (rest:Int))),(.v (.int .u32 (third:Int))),(.v (.int .u32 (v:Int))),(.v (.int .u32 (w:Int)))] (.v (.int .u64 (((q-N:Nat)):Int))):=by
 exact tr true Tryz.call345 Tryz.func345 (chain [.s (Sp.jx (QK q rest third v w) 0 N ae (fun x hx ke=>by
    obtain⟨g1,g2⟩:=iH x ae;have m1:(q-x)*w<=4294967295*4294967295:=cK ae ae;have g3:0<q-x:=by
     rcases dW (q-x)with h|h
     .rw [h,ch]at g2;omega
     .exact h
    exact iB (chain [tT 12 ((((rest+(x*v)):Nat):Int)<4294967296) ae,.o 16 (.int (pB _ ae):PV.le (.e (.v (.int .u64 (IntKind.u64.wrap (w:Int))))) (.e (.v (.int .u64 (w:Int))))),
     pd ((((q-x):Nat):Int)*(w:Int)) ae,.a (ae:0<=(32:Int)/\(32:Int)<=((64:Nat):Int)),.o 19 (.int (DB _ ae):PV.le (.e (.v (.int .u64 (IntKind.u64.wrap ((((rest+(x*v)):Nat):Int)*2^32))))) (.e (.v (.int .u64 ((((rest+(x*v))*4294967296):Nat):Int))))),.o 21 (.int (pB _ ae):PV.le (.e (.v (.int .u64 (IntKind.u64.wrap (third:Int))))) (.e (.v (.int .u64 (third:Int))))),.o 22 (.int (Ft _ _ ae ae):PV.le (.e (.v (.int .u64 (bits .or .u64 ((((rest+(x*v))*4294967296):Nat):Int) (third:Int))))) (.e (.v (.int .u64 (((((rest+(x*v))*4294967296)+third):Nat):Int))))),tT 23 ((((((rest+(x*v))*4294967296)+third):Nat):Int)<((((q-x)*w):Nat):Int)) (Int.ofNat_lt.2 g2),pd ((((q-x):Nat):Int)-1) ae,.o 29 (.int (pB _ ae):PV.le (.e (.v (.int .u64 (IntKind.u64.wrap (v:Int))))) (.e (.v (.int .u64 (v:Int))))),pd ((((rest+(x*v)):Nat):Int)+(v:Int)) ae]<|.e (chain [.o 0 (.int aw:PV.le (.e (.v (.int .u64 ((((q-x):Nat):Int)-1)))) (.e (.v (.int .u64 (((q-(x+1)):Nat):Int))))),.o 1 (.int aw:PV.le (.e (.v (.int .u64 ((((rest+(x*v))+v):Nat):Int)))) (.e (.v (.int .u64 (((rest+((x+1)*v)):Nat):Int)))))]<|.nil)) ah)
  (fun hx=>by
    have m1:(q-N)*w<=4294967295*4294967295:=cK ae ae;exact iB (chain [tF 12 ((((rest+(N*v)):Nat):Int)<4294967296) ae]<|.nil) ah) ak:ju 1 Tryz.f345 (QK q rest third v w 0) (.exit 0) ⟨32,true,[(0,.e (.v (.int .u64 (((q-N):Nat):Int))))],[]⟩) (chain [.o 0 (.int aw:PV.le (.e (.v (.int .u64 (q:Int)))) (.e (.v (.int .u64 (((q-0):Nat):Int))))),.o 1 (.int aw:PV.le (.e (.v (.int .u64 (rest:Int)))) (.e (.v (.int .u64 (((rest+(0*v)):Nat):Int)))))]<|.nil)]<|.nil) ah 
theorem agN(L:List Nat)(d:Nat)(hk:iC L)(hl:L.length<=1000000)(uZ:0<d)(tg:d<4294967296):gU 338 [(gX L),(.v (.int .u32 (d:Int)))] (.iw [gX (iK (val L/d) L.length),.v (.int .u32 (((val L%d:Nat)):Int))]):=by
 exact tr false Tryz.call338 Tryz.func338 (chain [.a (ae:0<=((L.length:Int):Int)/\((L.length:Int):Int)<=((L.length:Int):Int)),.a (ae:((4:Nat):Int)*(L.length:Int)<=281474976710656/\((L.length:Int):Int)<=9223372036854775807),iq ((L.length:Int)-1) ae,.s (Sp.jx (Xf L d) 0 L.length ae (fun x hx ke=>by
    have SS:((L.length:Int)-1-(x:Int)).toNat=L.length-1-x:= ae ;have hld:((L.getD ((L.length:Int)-1-(x:Int)).toNat 0:Nat):Int)=(iA (val L) (L.length-1-x):Int):=by rw[SS,pF hk]
    have vd:=akf (a:=val L) (k:=L.length-1-x) uZ tg;have rN:L.length-1-x+1=L.length-x:= ae ;have j8:L.length-(x+1)=L.length-1-x:= ae ;rw[rN]at vd;have Il:=bg (val L/4294967296^(L.length-x)) uZ;have LP:=pE (val L) (L.length-1-x);have uc:(kF 0 (val L/d) (L.length-x) L.length).set ((L.length:Int)-1-(x:Int)).toNat ((val L/4294967296^(L.length-x)%d*4294967296+iA (val L) (L.length-1-x))/d)=kF 0 (val L/d) (L.length-(x+1)) L.length:=by
     rw[SS,vd.1,<-rN,agC,j8]
    exact iB (chain [tT 16 (0<=((L.length:Int)-1-(x:Int))) ae,iX (((L.length:Int)-1-(x:Int))) (L.length) ae,.o 26 (.int hld:PV.le (.e (.v (.int .u32 (((L.getD (((L.length:Int)-1-(x:Int))).toNat 0):Nat):Int)))) (.e (.v (.int .u32 (iA (val L) (L.length-1-x):Int))))),.c (abv _ _ _ ae ae ae:gU 344 [(.v (.int .u32 (((val L/4294967296^(L.length-x)%d):Nat):Int))),(.v (.int .u32 (iA (val L) (L.length-1-x):Int))),(.v (.int .u32 (d:Int)))] _),
     iX (((L.length:Int)-1-(x:Int))) (L.length) ae,.a (ae:(((L.length:Int)-1-(x:Int))).toNat<L.length),iq (((L.length:Int)-1-(x:Int))-1) ae]<|.e (chain [.o 8 (.int aw:PV.le (.e (iP (((L.length:Int)-1-(x:Int))-1))) (.e (iP ((L.length:Int)-1-(((x+1):Nat):Int))))),.o 7 (.int (by rw[vd.2,j8]):PV.le (.e (.v (.int .u32 (((((val L/4294967296^(L.length-x)%d)*4294967296+(iA (val L) (L.length-1-x)))%d):Nat):Int)))) (.e (.v (.int .u32 (((val L/4294967296^(L.length-(x+1))%d):Nat):Int))))),.b 11 (Dv rfl aG uc:Bx.le (.row false 79 L.length 1 (fun i' j'=>if i'=(((L.length:Int)-1-(x:Int))).toNat/\0<=j'/\j'<0+1 then[(.v (.int .u32 (((((val L/4294967296^(L.length-x)%d)*4294967296+(iA (val L) (L.length-1-x)))/d):Nat):Int)))].getD (j'-0) .any else(jb (kF 0 (val L/d) (L.length-x) L.length)) i' j')) (.row false 79 L.length 1 (jb (kF 0 (val L/d) (L.length-(x+1)) L.length))))]<|.nil)) ah)
  (fun hx=>by
    exact iB (chain [tF 16 (0<=((L.length:Int)-1-(L.length:Int))) ae]<|.nil) ah) ak:ju 4 Tryz.f338 (Xf L d 0) (.exit 0) ⟨34,false,[(7,.e (.v (.int .u32 (((val L/4294967296^(L.length-L.length)%d):Nat):Int)))),(6,.own 11)],[(11,.row false 79 L.length 1 (jb (kF 0 (val L/d) (L.length-L.length) L.length)))]⟩) (chain [.o 8 (.int aw:PV.le (.e (iP ((L.length:Int)-1))) (.e (iP ((L.length:Int)-1-((0:Nat):Int))))),.o 7 (.int (by rw[dh,bS (lZ hk),Nat.zero_mod];rfl):PV.le (.e (.v (.int .u32 0))) (.e (.v (.int .u32 (((val L/4294967296^(L.length-0)%d):Nat):Int))))),.b 11 (FQ rfl (fun i=>by rw[dh,IV (aU _),GV]):Bx.le (.row false 79 L.length 1 (fun _ j_=>[(.v (.int .u32 0))].getD j_ .any)) (.row false 79 L.length 1 (jb (kF 0 (val L/d) (L.length-0) L.length))))]<|.nil)]<|rR (.iw [gX (iK (val L/d) L.length),.v (.int .u32 (((val L%d:Nat)):Int))]) (.iw (.cons (by rw[cT,E7];exact yZ (mF _ _).symm) (.cons (.iU (by rw[cT,bN,dC])) .nil)):E.le (.iw [(.sl false L.length 1 (jb (kF 0 (val L/d) (L.length-L.length) L.length))),(.v (.int .u32 (((val L/4294967296^(L.length-L.length)%d):Nat):Int)))]) (.iw [gX (iK (val L/d) L.length),.v (.int .u32 (((val L%d:Nat)):Int))]))) ah 
open Go.RowKit Fp
def YL(w:World)(T S:List Nat)(e:Ending)(w':World):Prop:=∃ A c B d,e = .returned (.tuple #[.slice A T.length c,.slice B S.length d])/\Sl w' A c T/\Sl w' B d S/\iy w w'
theorem Ow.rx{w:World}{base:Nat}{v:Value}{L:List Nat}(h:Ow w base v L)(hl:L≠[]):∃ g cap R,v = .slice (some ⟨g,0,none⟩) L.length cap/\base<=g/\g<w.heap.size/\Rx w g L R/\L.length<=cap/\cap<=maxLen:=by
 rcases h.row.2 with⟨_,h0⟩|⟨g,cap,cur,rfl,hb,hg,pZ,nV,nL,EK⟩
 .exact absurd (de h0) hl
 .refine ⟨g,cap,cur.toList.drop L.length,rfl,hb,(cP.1 hg).1,?_,pZ,nV⟩
  unfold Rx;rw[hg];rw[bO]at EK;rw[<-EK,gJ]
theorem Rx.sl{w:World}{b cap:Nat}{L:List Nat}{R:List Value}(h:Rx w b L R)(hk:iC L)(hc:L.length<=cap)(hm:cap<=maxLen)(n:Nat):Sl w (some ⟨b,0,none⟩) cap (L.take n):=
 ⟨by rw[bY];omega,by unfold maxLen at hm;omega,hk.take n,(fun h=>by cases h),fun i x hx=>by
  rw[dU]at hx;split at hx
  .obtain ⟨hi,z8⟩:=bU.1 hx
   refine⟨_,_,rfl,h.lt,?_⟩;rw[bW,h.cell hi];simp[aW,hx]
  .cases hx⟩
theorem agp(x:Nat)(hx:x<4294967296)(w:World):
 Calls Tryz.prog 339 #[.int .u32 x] w fun e w'=>e = .returned (.int .i64 ((32-ib x:Nat):Int))/\w=w':=by
 have me:ib x<=32:=kO.2 hx;have H:=Lib.hid (fun w=>Ud x hx w);go_enter Tryz.func339,Tryz.ntmps339;go_wp2_with fail;refine(H.out _).mono ?_;rintro e w' ⟨rfl,rfl⟩;go_wp2;go_ret;exact⟨oo ae,rfl⟩
theorem QO(q rest third v w0 N:Nat)(w:World)(hq:q<=4294967295)(hr:rest<9223372036854775808)(ht:third<4294967296)(hv:v<4294967296)(hw:w0<4294967296)(hNq:N<=q)(iH:∀ x,x<N->sG q rest third v w0 x)(hN:¬sG q rest third v w0 N):
 Calls Tryz.prog 345 #[.int .u64 q,.int .u64 rest,.int .u32 third,.int .u32 v,.int .u32 w0] w fun e w'=>e = .returned (.int .u64 ((q-N:Nat):Int))/\w=w':=by
 have HLO:=Lib.hid iH;have HNN:=Lib.hid hN;clear iH hN;go_enter Tryz.func345,Tryz.ntmps345;go_wp2;go_loop [0,1] (fun a b=>∃ k:Nat,k<=N/\a = .int .u64 ((q-k:Nat):Int)/\b = .int .u64 ((rest+k*v:Nat):Int)) (fun a _=>(intOf a).toNat+0*N)
 case atStart=>exact⟨0,bL _,by go_num,by go_num⟩
 case round=>
  obtain⟨k,hk,rfl,rfl⟩:=hrel;have m1:(q-k)*w0<=4294967295*4294967295:=cK ae ae;have m2:(q-k)*w0=(q-k)*w0:=rfl;by_cases iD:k<N
  .have hc:=HLO.out k iD
   have tu:0<q-k:= ae ;have S4:rest+(k+1)*v=rest+k*v+v:=by rw[bK,bI];omega
   have HX:=Lib.hid S4;clear S4;unfold sG at hc;have yC:IntKind.u64.wrap (((q-k:Nat):Int)*(w0:Int))=(((q-k)*w0:Nat):Int):=by rw[<-dI];exact pB _ ae 
   generalize rest+k*v=y at *
   generalize hz:(q-k)*w0=z at *
   have CS:q-k=q-(k+1)+1:= ae ;have HQ:=Lib.hid CS;obtain⟨p,hp⟩:∃ p,p=q-k:=⟨_,rfl⟩
   rw[<-hp]at yC tu CS HQ ⊢;have HP:=Lib.hid hp;have Bo:p<=4294967295:= ae ;clear hp hz CS;have Bq:=DB y hc.1;have tn:=Ft y third hc.1 ht;have g2:=hc.2;have g1:=hc.1;clear hc;rw[show((y*4294967296:Nat):Int)=(y:Int)*4294967296 by omega]at tn Bq;have d1:decide ((y:Int)<4294967296)=true:=aS ae;have d2:decide ((y:Int)*4294967296+(third:Int)<(z:Int))=true:=aS ae;have Ij:IntKind.u64.wrap ((p:Int)-1)=((p-1:Nat):Int):=by rw[IntKind.wrap_u64];omega
   go_wp2;go_round
   case rel=>
    have e1:=HP.out;exact⟨k+1,ae,by go_num,by rw[HX.out];go_num⟩
   case measure=>simp[intOf];omega
  .obtain rfl:k=N:= ae 
   have hn:=HNN.out;clear HNN HLO;unfold sG at hn;have yC:IntKind.u64.wrap (((q-k:Nat):Int)*(w0:Int))=(((q-k)*w0:Nat):Int):=by rw[<-dI];exact pB _ ae 
   generalize rest+k*v=y at *
   generalize (q-k)*w0=z at *
   obtain⟨p,hp⟩:∃ p,p=q-k:=⟨_,rfl⟩
   rw[<-hp]at yC ⊢;have HP:=Lib.hid hp;clear hp;by_cases g1:y<4294967296
   .have Bq:=DB y g1
    have tn:=Ft y third g1 ht;rw[show((y*4294967296:Nat):Int)=(y:Int)*4294967296 by omega]at tn Bq;have d1:decide ((y:Int)<4294967296)=true:=aS ae;have d2:decide ((y:Int)*4294967296+(third:Int)<(z:Int))=false:=aT ae;clear hn;go_wp2;go_ret;exact⟨oo (by rw[<-HP.out]),rfl⟩
   .have d1:decide ((y:Int)<4294967296)=false:=aT ae 
    clear hn yC;go_wp2;go_ret;exact⟨oo (by rw[<-HP.out]),rfl⟩
theorem ad3(iu next third v w0:Nat)(hv:2147483648<=v)(rV:v<4294967296)(hn:next<4294967296)(ht:third<4294967296)(hw:w0<4294967296)(htv:iu<=v):
 ∃ g,g<=4294967295/\g<=((iu*4294967296+next)*4294967296+third)/(v*4294967296+w0)/\(g=4294967295\/((iu*4294967296+next)*4294967296+third)/(v*4294967296+w0)<=g) /\
  ∀ w,Calls Tryz.prog 340 #[.int .u32 iu,.int .u32 next,.int .u32 third,.int .u32 v,.int .u32 w0] w fun e w'=>e = .returned (.int .u64 (g:Int))/\∃ m,w'=w.drewN m:=by
 by_cases k1:v<=iu
 .obtain ⟨N,hN3,mG,tc,sc,g1,g2⟩:=QN (X:=iu*4294967296+next) (q:=4294967295) (rest:=(iu-v)*4294967296+next+v) (third:=third) (v:=v) (w:=w0) ae (aU _) hv hw
  refine⟨4294967295-N,ae,g1,g2.elim (fun h=>.inl (by rw[h])) .inr,fun w=>?_⟩;clear g1 g2;have H:=fun w=>QO 4294967295 ((iu-v)*4294967296+next+v) third v w0 N w ae ae ht rV hw mG tc sc
  clear tc sc;obtain rfl:v=iu:= ae ;have ua:(v-v)*4294967296+next+v=next+v:= ae 
  rw[ua,et]at H;have HD:=Lib.hid H;clear H;have d1:decide ((v:Int)<=(v:Int))=true:=aS ae;go_enter Tryz.func340,Tryz.ntmps340;go_wp2_with fail;refine(HD.out _).mono ?_;rintro e w' ⟨rfl,rfl⟩;go_wp2;go_ret;exact⟨rfl,0,rfl⟩
 .have d1:=bT (iu*4294967296+next) v
  have d2:=bg (iu*4294967296+next) (show 0<v by omega);have d3:(iu*4294967296+next)/v<4294967296:=by rw[bR ae];omega
  obtain⟨N,hN3,mG,tc,sc,g1,g2⟩:=QN (X:=iu*4294967296+next) (q:=(iu*4294967296+next)/v) (rest:=(iu*4294967296+next)%v) (third:=third) (v:=v) (w:=w0) (by rw[a7];exact d1) ae hv hw;have g3:=abr (x:=iu*4294967296+next) (v:=v) (w:=w0) (third:=third) ae ht;refine⟨(iu*4294967296+next)/v-N,ae,g1,.inr ?_,fun w=>?_⟩
  .rcases g2 with rfl|g2
   .exact g3
   .exact g2
  have H:=fun w=>QO ((iu*4294967296+next)/v) ((iu*4294967296+next)%v) third v w0 N w (Nat.le_of_lt_succ d3) (fk d2 ae) ht rV hw mG tc sc
  rw[Int.natCast_ediv,Int.natCast_emod]at H;have HD:=Lib.hid H;clear H g1 g2 g3 mG tc sc d1 d2 d3;have d1:decide ((v:Int)<=(iu:Int))=false:=aT ae;have Bq:=DB iu ae;have tn:=Ft iu next ae hn
  rw[show((iu*4294967296:Nat):Int)=(iu:Int)*4294967296 by omega]at tn Bq;have mo:((iu*4294967296+next:Nat):Int)<18446744073709551616:= ae ;rw[show((iu*4294967296+next:Nat):Int)=(iu:Int)*4294967296+(next:Int)by omega]at tn mo;have rU:((v:Int)==0)=false:= av ;go_enter Tryz.func340,Tryz.ntmps340;go_wp2;go_quiet (exact Calls.quiet_of_same ((HD.out _).mono fun _ _ ⟨h1,h2⟩=>⟨h1,h2.symm⟩));go_wp2;go_ret;exact⟨rfl,_,rfl⟩
theorem Fp.iy.alj{w0 w w':World}{g n:Nat}(h:iy w0 w)(k:sD g (w.drewN n) w')(hg:w0.heap.size<=g):iy w0 w':=
 (below_drewN h n).trans (k.below.mono hg)
theorem Fp.iy.only{w0 w w':World}{g:Nat}(h:iy w0 w)(k:sD g w w')(hg:w0.heap.size<=g):iy w0 w':=
 Below.trans h (k.below.mono hg)
theorem Sl.Ry{w:World}{g cap:Nat}{L:List Nat}(h:Sl w (some ⟨g,0,none⟩) cap L){b:Nat}(hb:g≠b)(i:Nat)(v:Value):Sl (w.setCell ⟨b,i,none⟩ v) (some ⟨g,0,none⟩) cap L:=
 h.pR (fun b' o _ e=>by cases e;exact hb) (sD.FT (sD.refl b w) i v)
theorem Sl.drewN{w:World}{A:Option Addr}{c:Nat}{L:List Nat}(h:Sl w A c L)(n:Nat):Sl (w.drewN n) A c L:=h.below (below_drewN (Below.refl _ _) n)
theorem ahO{P:Program}{f:FuncId}{args:Array Value}{w:World}{n:Nat}{v:Value}
 (h:Calls P f args (w.drewN n) fun e w'=>e = .returned v/\∃ m,w'=(w.drewN n).drewN m):Calls P f args (w.drewN n) fun e w''=>e = .returned v/\∃ m,w''=w.drewN m:=
 h.mono fun _ _ ⟨he,m,hm⟩=>⟨he,n+m,by rw[hm,World.drewN_drewN]⟩
set_option maxRecDepth 100000 in
set_option maxHeartbeats 8000000 in
theorem abC(A B:Option Addr)(c d:Nat)(L M:List Nat)(w:World)(lx ly s:Nat)(rm:lx=(ik L).length)(Ii:ly=(ik M).length)(vd:s=32-ib ((ik M).getD (ly-1) 0))(hs:Sl w A c L)(hr:Sl w B d M)(kp:Tb w)(h1:L.length<=100000)(h2:M.length<=100000)(pX:val M<=val L)(hlen:2<=ly):
 Calls Tryz.prog 319 #[.slice A L.length c,.slice B M.length d] w (YL w (iK (val L/val M) (lx+1-ly)) (qx (s%32) ((gV (val L%val M*2^s)).drop (s/32)))):=by
 have H1:=uj A c L w hs;have H2:=uj B d M w hr;have R8:=oH L;unfold lV at R8;have uX:=oH M;unfold lV at uX;have eL:=ot L;have eM:=ot M;rw[<-eL,<-eM]at pX ⊢;have kD:=hs.tE;have nW:=hr.tE;have Lu:=y5 M;have Sm:ik (ik L)=ik L:=y5 L;have Ss:ik (ik M)=ik M:=y5 M;have H3:=Ff A B c d (ik L) (ik M) w kD nW ae ae;generalize ik L=X at *
 generalize ik M=Y at *
 have oE:0<=kg (val X) (val Y):=by unfold kg;split<;>(try split)<;>omega
 generalize kg (val X) (val Y)=cm at *
 have So:Y.length<=X.length:=by
  apply bE;intro h;have:=JS kD.ok Lu (ae:X.length<Y.length);omega
 clear eL eM hs hr pX;rw[<-rm]at So H1 H3 R8;rw[<-Ii]at So H2 H3 uX;have mo:Y.getD (ly-1) 0≠0:=by
  have:=(AK Y).1 Lu ae;have e:Y.getD (ly-1) 0=Y[Y.length-1]'(ae):=by
   rw[aW,show ly-1=Y.length-1 by omega];simp[show Y.length-1<Y.length by omega]
  rw[e];exact this
 have HN:=aha nW.ok (l:=ly-1) ae rfl mo vd;rw[show ly-1+1=ly by omega]at HN;obtain⟨x,hx⟩:∃ x,x=Y.getD (ly-1) 0:=⟨_,rfl⟩
 have mB:x<4294967296:=by rw[hx];exact nW.ok.getD _
 have H4:=Lib.hid (fun w=>agp x mB w);rw[<-hx]at vd;rw[<-vd]at H4;obtain⟨ab,ao,rfl,hab,c1⟩:=nW.lr (i:=ly-1) ae;have ID:Y[ly-1]'(ae)=x:=by rw[hx];simp[aW,show ly-1<Y.length by omega]
 rw[ID]at c1;have ae1:s<32:=HN.1;have HNh:=Lib.hid HN;have H5:=fun w (h:Sl w A c X)=>U9 A c X s w h ae ae 
 have H6:=fun w (h:Sl w (some ⟨ab,ao,none⟩) d Y)=>U9 (some ⟨ab,ao,none⟩) d Y s w h ae ae 
 rw[Sm,<-rm,show s/32+lx+1=lx+1 by omega]at H5;rw[Ss,<-Ii,show s/32+ly+1=ly+1 by omega]at H6;have H5h:=Lib.hid H5;have H6h:=Lib.hid H6;have HX:=Lib.hid rm;have HY:=Lib.hid Ii;have HS2:=Lib.hid kD;have HR2:=Lib.hid nW;have H1h:=Lib.hid H1;have H2h:=Lib.hid H2;have H3h:=Lib.hid H3;clear H1 H2 H3 H5 H6 Sm Ss HN rm Ii hx ID vd mo kD nW Lu;have yC:(ly:Int)-1=((ly-1:Nat):Int):= ae ;have d0:decide (cm<0)=false:=aT ae;have d2:decide ((lx:Int)+1<=(lx:Int))=false:=aT ae;have oW:=C9 (lx+1-ly) ae;rw[show((lx+1-ly:Nat):Int)=(lx:Int)+1-(ly:Int)by omega]at oW;have d1:((ly:Int)==1)=false:= av 
 go_enter Tryz.func319,Tryz.ntmps319;go_wp2_with fail;refine H1h.out.mono ?_;rintro e w' ⟨rfl,rfl⟩;go_wp2_with fail;refine H2h.out.mono ?_;rintro e w' ⟨rfl,rfl⟩;go_wp2_with fail;refine H3h.out.mono ?_;rintro e w1 ⟨rfl,jc⟩;have c2:=c1;rw[<-(jc.cell (p:=⟨ab,ao+(ly-1),none⟩) hab)]at c2;go_wp2_with fail;refine(H4.out _).mono ?_;rintro e w2 ⟨rfl,rfl⟩;go_wp2_with fail;refine(H5h.out _ (HS2.out.below jc)).mono ?_;rintro e w2 ⟨T,v1,he,CE,A9,lg,me⟩;obtain⟨g,cap,R,xn,SL,SM,Se,CJ,ael⟩:=lg.rx (by intro h;rw[h]at A9;simp at A9);have Si:=Lib.hid lg.ok;rw[A9]at xn CJ;subst xn;subst he;clear lg;have HTv:=Lib.hid CE;have HTl:=Lib.hid A9;clear CE A9;go_wp2_with fail;refine(H6h.out _ ((HR2.out.below jc).below me)).mono ?_;rintro e w3 ⟨S,v2,he,Sh,A8,lg,pk⟩;have Hu:=Se.qk (pk.block g SM);obtain⟨g',cap',R',rV,aeq,amo,_,amn,_⟩:=lg.rx (by intro h;rw[h]at A8;simp at A8);obtain⟨_,_,e2,Lx⟩:=lg.sl;rw[rV]at e2;cases e2;have H8:g'≠g:= ae ;have H7:=uj (some ⟨g',0,none⟩) cap' S w3 Lx;have hV:ik S=gV (val Y*2^s):=by rw[qy lg.ok,Sh]
 have yb:=Lx.tE;rw[hV]at H7 yb;rw[HNh.out.2.1,A8]at H7;rw[A8]at rV;have aei:iy w w3:=(jc.trans me).trans pk;subst rV;subst he;have H7h:=Lib.hid H7;clear lg Lx hV Sh A8 H7 Se me pk;go_wp2_with fail;refine H7h.out.mono ?_;rintro e w4 ⟨rfl,rfl⟩;go_wp2;go_loop [9] (fun u=>u = .slice (some ⟨g,0,none⟩) (lx+1) cap) (fun _=>0)
 case atStart=>rfl
 case round=>
  subst hrel;go_wp2;have uY:=Rw.xw w3 (lx+1-ly);have Im:=HNh.out.2.1;have tc:=HNh.out.2.2.1;have sc:=HNh.out.2.2.2.1;have Sj:=kA (val Y*2^s);have LD:=jD (val Y*2^s);rw[<-LD]at sc;generalize gV (val Y*2^s)=V at *
  have w9:=r7.start (A:=val X) (s:=s) (V:=V) (O:=T) Si.out HTv.out (la:=lx) (by rw[HX.out];exact lZ HS2.out.ok) HTl.out ae1 ae ae (by rw[Im];exact sc);have Sg:=yb.alloc (.cells (nZ (List.replicate (lx+1-ly) 0)).toArray 79);have Sf:Rx (w3.alloc (.cells (nZ (List.replicate (lx+1-ly) 0)).toArray 79)) g T R:=Hu.qk ((iy.alloc w3 _).block g (by have:=Hu.lt;omega));rw[Im]at w9;have HD0:=Lib.hid w9;have HR0:=Lib.hid uY;have HRx:=Lib.hid Sf;have HSV:=Lib.hid Sg;have HE0:=Lib.hid (aei.trans (iy.alloc w3 (.cells (nZ (List.replicate (lx+1-ly) 0)).toArray 79)));have HnV:=Lib.hid Im;have HVok:=Lib.hid Sj;have HVv:=Lib.hid LD;have HN1:=Lib.hid tc;have hgq:g<w3.heap.size:=Hu.lt;have SO:w.heap.size<=g:=aX jc.size SL;clear w9 uY Sf Sg yb Hu Im Sj LD tc sc HTv HTl Si H1h H2h H3h H4 H5h H6h H7h c1 c2 d2 oW jc SL aeq SM HNh HS2 HR2;go_loopw [13] (fun j wr=>∃ (k:Nat) (O Q:List Nat),k<=lx+1-ly/\j = .int .i64 ((k:Int)-1)/\r7 (val X*2^s) V k (lx+1) O Q/\Rx wr g O R/\Rw wr w3.heap.size Q/\Sl wr (some ⟨g',0,none⟩) cap' V/\iy w wr) (fun j _=>(intOf j+1).toNat)
  case atStart=>
   exact⟨lx+1-ly,T,_,aU _,by go_num,HD0.out,HRx.out,HR0.out,HSV.out,HE0.out⟩
  case round=>
   clear HD0 HRx HR0 HSV HE0;obtain⟨k,O,Q,hk,rfl,hD,CD,Lw,yb,Sz⟩:=hrel;have HE:=Lib.hid Sz;have HSV:=Lib.hid yb;have HRQ:=Lib.hid Lw;have HRO:=Lib.hid CD;have HD:=Lib.hid hD;clear hD Sz;rcases k with _|t
   .have hO:=HD.out.Ue
    have Tf:=HRO.out.sl HD.out.yQ (cap:=cap) ae ael ly;have HZ:=Na (some ⟨g,0,none⟩) cap (O.take ly) s wr Tf aD ae;have e1:(O.take ly).length=ly:=by rw[bY];omega
    rw[e1]at HZ;have HZh:=Lib.hid HZ;have HQs:=Lib.hid (HRQ.out.sl HD.out.BL (by rw[HD.out.EW];omega));have vX:0<val V:=by
     have:=HD.out.lt;rcases dW (val V)with h|h
     .rw [h,ch]at this;omega
     .exact h
    have Sn:0<val Y:=by
     rw[HVv.out]at vX;exact Nat.pos_of_mul_pos_right vX
    have LU:=abz (a:=val X) (b:=val Y) (s:=s) (q:=val Q) (r:=val O) Sn (by rw[<-HVv.out];exact HD.out.eq) (by rw[<-HVv.out];have:=HD.out.lt;rw[bN,bO]at this;exact this);have zU:val (O.take ly)=val O:=by
     rw[alN HD.out.yQ,bu];have:=HD.out.lt;rw[bN,bO]at this;refine fk this ?_;have h:=lZ HVok.out;rw[HnV.out]at h;exact h
    have R9:ik (O.take ly)=gV (val X%val Y*2^s):=by rw[qy (HD.out.yQ.take ly),zU,LU.2]
    rw[R9]at HZh;have Hs:=HD.out.EW;rw[HnV.out]at Hs;have Sc:iK (val X/val Y) (lx+1-ly)=Q:=Cq HD.out.BL Hs LU.1;have HQd:=Lib.hid Sc;generalize qx (s%32) ((gV (val X%val Y*2^s)).drop (s/32))=Z at *
    have HQl:=Lib.hid Hs;clear LU zU R9 Sc Tf HZ e1 Hs hO vX Sn yb CD Lw;go_wp2_with fail;refine HZh.out.mono ?_;rintro e w5 ⟨AZ,cZ,rfl,hZs,St⟩;go_wp2;go_ret2;have hq:=HQs.out.below St;rw[HQl.out]at hq;exact⟨_,_,_,_,by rw[mF];rfl,by rw[HQd.out];exact hq,hZs,HE.out.trans St⟩
   .have hO:=HD.out.Ue
    have c4:=CD.cell (i:=t+ly) ae;have c5:=CD.cell (i:=t+ly-1) ae;have c6:=CD.cell (i:=t+ly-2) ae;obtain⟨_,_,e1,_,c7⟩:=yb.lr (i:=ly-1) (by rw[HnV.out];omega);obtain⟨_,_,e2,_,c8⟩:=yb.lr (i:=ly-2) (by rw[HnV.out];omega);cases e1;cases e2;rw[bW]at c7 c8;have v7:V[ly-1]'(by rw[HnV.out];omega)=V.getD (ly-1) 0:=by simp[aW,HnV.out,show ly-1<ly by omega]
    have v8:V[ly-2]'(by rw[HnV.out];omega)=V.getD (ly-2) 0:=by simp[aW,HnV.out,show ly-2<ly by omega]
    rw[v7]at c7;rw[v8]at c8;clear v7 v8;have kX:=HD.out.yQ;have o4:=kX.getD (t+ly);have o5:=kX.getD (t+ly-1);have o6:=kX.getD (t+ly-2);have o7:=HVok.out.getD (ly-1);have o8:=HVok.out.getD (ly-2);have hG:=HD.out.ad2 HVok.out (by rw[HnV.out];omega) (by rw[HnV.out];exact HN1.out);rw[HnV.out]at hG;obtain⟨gd,g1,g2,g3,g4⟩:=ad3 (O.getD (t+ly) 0) (O.getD (t+ly-1) 0) (O.getD (t+ly-2) 0) (V.getD (ly-1) 0) (V.getD (ly-2) 0) HN1.out o7 o5 o6 o8 hG.1;have HGq:=Lib.hid (hG.2 gd g1 g2 g3);have HG:=Lib.hid g4;clear hG g2 g3 g4 kX yb CD Lw;generalize O.getD (t+ly) 0=x4 at *
    generalize O.getD (t+ly-1) 0=x5 at *
    generalize O.getD (t+ly-2) 0=x6 at *
    have HV1:=Lib.hid (rfl:V.getD (ly-1) 0=V.getD (ly-1) 0);generalize hx7:V.getD (ly-1) 0=x7 at *
    generalize V.getD (ly-2) 0=x8 at *
    clear hx7 HV1;have i1:(((t+1:Nat):Int)-1)=(t:Int):= ae ;have i2:((t:Int)+(ly:Int)).toNat=t+ly:= ae ;have i3:((t:Int)+(ly:Int)-1).toNat=t+ly-1:= ae ;have i4:((t:Int)+(ly:Int)-2).toNat=t+ly-2:= ae ;have i6:((ly:Int)-2)=((ly-2:Nat):Int):= ae ;have p1:IntKind.i64.wrap ((t:Int)+(ly:Int))=(t:Int)+(ly:Int):=i64_in _ ae ae;have p2:IntKind.i64.wrap ((t:Int)+(ly:Int)-1)=(t:Int)+(ly:Int)-1:=i64_in _ ae ae;have p3:IntKind.i64.wrap ((t:Int)+(ly:Int)-2)=(t:Int)+(ly:Int)-2:=i64_in _ ae ae;have p4:IntKind.i64.wrap ((ly-1:Nat):Int)=((ly-1:Nat):Int):=i64_in _ ae ae;have p5:IntKind.i64.wrap ((ly-2:Nat):Int)=((ly-2:Nat):Int):=i64_in _ ae ae;have j6:((ly-1:Nat):Int)<(ly:Int):= ae ;have j7:((ly-2:Nat):Int)<(ly:Int):= ae ;have j0:0<=(t:Int)+(ly:Int):= ae ;have j1:0<=(t:Int)+(ly:Int)-1:= ae ;have j2:0<=(t:Int)+(ly:Int)-2:= ae ;have j3:(t:Int)+(ly:Int)<(lx:Int)+1:= ae ;have j4:(t:Int)+(ly:Int)-1<(lx:Int)+1:= ae ;have j5:(t:Int)+(ly:Int)-2<(lx:Int)+1:= ae 
    rw[i1];clear i1;go_wp2;go_quiet (exact ahO (HG.out _));go_wp2_with fail;have HTk:=ak7 g t (cap-t) cap' gd O V R (some ⟨g',0,none⟩) (wr.drewN nq) (HRO.out.qk rfl) (HSV.out.drewN nq) (fun b' o _ e=>by cases e;exact H8) HD.out.yQ (by rw[HnV.out];omega) g1 ae;rw[HnV.out,show ly+1=t+ly+1-t by omega]at HTk;refine HTk.mono ?_;rintro e w5 ⟨O',δ,rfl,Sd,pK,CQ,hδ,kY,Iz,CR⟩;have HRO':=Lib.hid Sd;have HON:=Lib.hid CR;have HSV5:=Lib.hid ((HSV.out.drewN nq).pR (fun b' o _ e=>by cases e;exact H8) CR);have HRQ5:=Lib.hid (show Rw w5 w3.heap.size Q from(CR.pR _ ae).trans HRQ.out);have HE5:=Lib.hid (show iy w w5 from Fp.iy.alj HE.out CR SO);have hPt:=pw t;have Sk:0<val V:=by
     have:=HD.out.lt;rcases dW (val V)with h|h
     .rw [h,ch]at this;omega
     .exact h
    have wg:IntKind.u32.wrap (gd:Int)=(gd:Int):=by rw[IntKind.wrap_u32];omega
    have htm:(t:Int)<(lx:Int)+1-(ly:Int):= ae ;have Tl:t<Q.length:=by rw[HD.out.EW,HnV.out];omega
    have Lv:=bd Tl;have cq:=HRQ5.out.cell Lv;have fq:=HRQ5.out.frozen t;generalize Q[t]=q0 at *
    have HQG:=Lib.hid Lv;clear Lv Tl c4 c5 c6 c7 c8 HRO HRQ HSV HE HTk Sd CR;rcases dG δ 1 with TF|hδ1
    .obtain rfl:δ=0:= ae 
     have R6:=QQ hPt Sk (by rw[kY,cr,bt]) HGq.out.1;have HDS:=Lib.hid (HD.out.step (x:=gd) (by rw[HnV.out];omega) (by rw[pK,hO]) CQ ae (by rw[kY,cr,bt]) R6.2);clear R6 kY Iz CQ pK HD HGq;have HRQ6:=Lib.hid (fun x:Nat=>HRQ5.out.set t x);have HRO6:=Lib.hid (fun v:Value=>HRO'.out.qk (w':=w5.setCell ⟨w3.heap.size,t,none⟩ v) (by simp only[World.setCell,eG];rw[aQ ae]));have HSV6:=Lib.hid (fun v:Value=>HSV5.out.Ry (b:=w3.heap.size) ae t v);have HE6:=Lib.hid (fun v:Value=>HE5.out.setCell (p:=⟨w3.heap.size,t,none⟩) (by show w.heap.size<=w3.heap.size;omega) v);go_wp2;go_roundw
     case rel=>exact⟨t,O',Q.set t gd,ae,by go_num,HDS.out,HRO6.out _,HRQ6.out _,HSV6.out _,HE6.out _⟩
     case measure=>simp[intOf]
    .obtain rfl:δ=1:= ae 
     have tp:=HD.out.Vt (x:=gd) HVok.out CQ (by rw[HnV.out];exact kY) (by rw[HnV.out];exact Iz);have Be:=tp.2;have HB:=Lib.hid (fun(κ:Nat) (O2:List Nat)=>HD.out.ZN (x:=gd) (κ:=κ) (O2:=O2) HVok.out (by rw[HnV.out];omega) CQ (by rw[HnV.out];exact kY) (by rw[HnV.out];exact Iz) g1 HGq.out.2 Sk);have HP0:=Lib.hid (wR.start CQ t V);have SX:O'.length=lx+1:=by rw[pK,hO]
     have HL':=Lib.hid SX;have hxm:IntKind.u64.wrap ((gd:Int)-1)=((gd-1:Nat):Int):=by rw[IntKind.wrap_u64];omega
     have wg1:IntKind.u32.wrap ((gd-1:Nat):Int)=((gd-1:Nat):Int):=by rw[IntKind.wrap_u32];omega
     clear tp kY Iz CQ pK SX HD HGq wg cq fq;go_wp2;go_loopw [15,125] (fun cy i wr2=>∃ (k c':Nat) (O2:List Nat),k<=ly/\i = .int .i64 k/\cy = .int .u32 c'/\wR O' t V k O2 c'/\Rx wr2 g O2 R/\sD g w5 wr2) (fun _ i _=>ly-(intOf i).toNat)
     case atStart=>exact⟨0,0,O',bL _,rfl,rfl,HP0.out,HRO'.out,sD.refl _ _⟩
     case round=>
      clear HP0 HRO';obtain⟨k,c',O2,sO,rfl,rfl,hP,zP,EB⟩:=hrel;have HP:=Lib.hid hP;have Ep:=hP.Kw;have ns:O2.length=lx+1:=by rw[hP.len];exact HL'.out
      have HL2:=Lib.hid ns;clear hP;by_cases iD:k<ly
      .have yr:k<V.length:=by rw[HnV.out];exact iD
       obtain⟨_,_,e1,_,c1⟩:=(HSV5.out.pR (fun b' o _ e=>by cases e;exact H8) EB).lr yr;cases e1;rw[bW]at c1;have v7:V[k]=V.getD k 0:=by simp[aW,yr]
       rw[v7]at c1;have pY:t+k<O2.length:= ae ;have c2:=zP.cell pY;have c3:=zP.frozen (t+k);have px:V.getD k 0<4294967296:=HVok.out.getD k;have EL:O2.getD (t+k) 0<4294967296:=HP.out.ok.getD _;have HST:=Lib.hid (HP.out.step HVok.out yr (by rw[HL'.out,HnV.out];omega));have HRS:=Lib.hid (fun x:Nat=>zP.set pY x);have HOS:=Lib.hid (fun(v:Value)=>EB.FT (t+k) v);have HA:=Lib.hid (fun w=>DR (O2.getD (t+k) 0) (V.getD k 0) c' w EL px Ep);clear zP EB HP v7 yr pY ns HL2;generalize O2.getD (t+k) 0=u at *
       generalize V.getD k 0=y at *
       have xj:((t:Int)+(k:Int)).toNat=t+k:= ae ;have wh:0<=(t:Int)+(k:Int):= ae ;have SR:(t:Int)+(k:Int)<(lx:Int)+1:= ae ;go_wp2_with fail;refine(HA.out _).mono ?_;rintro e w6 ⟨rfl,rfl⟩;go_wp2;go_roundw
       case rel=>
        exact⟨k+1,(u+y+c')/4294967296,O2.set (t+k) ((u+y+c')%4294967296),ae,by go_num,rfl,HST.out,HRS.out _,HOS.out _⟩
       case measure=>simp[intOf];omega
      .obtain rfl:k=ly:= ae 
       have Hr:=(show wR O' t V V.length O2 c' by rw[HnV.out];exact HP.out).MO (by rw[HL'.out,HnV.out];omega);rw[HnV.out]at Hr;obtain⟨q1,q2,⟨κ,q3,q4⟩,q5⟩:=Hr;have pY:t+k<O2.length:= ae ;have c2:=zP.cell pY;have c3:=zP.frozen (t+k);have EL:O2.getD (t+k) 0<4294967296:=HP.out.ok.getD _;have HDS:=Lib.hid (HB.out κ _ (by rw[q1];exact HL'.out) q2 q3 (by rw[HnV.out];exact q4) (by rw[HnV.out];exact q5));have HRS:=Lib.hid (fun x:Nat=>zP.set pY x);have HOS:=Lib.hid (fun(v:Value)=>EB.FT (t+k) v);have Ht:∀ v:Value,Rw (wr.setCell ⟨g,t+k,none⟩ v) w3.heap.size Q:=fun v=>((HOS.out v).pR _ ae).trans HRQ5.out
       have hcq:∀ v:Value,(wr.setCell ⟨g,t+k,none⟩ v).cell? ⟨w3.heap.size,t,none⟩=some (.int .u32 (q0:Int)):=fun v=>(Ht v).cell HQG.out
       have hfq:∀ v:Value,(wr.setCell ⟨g,t+k,none⟩ v).frozen? ⟨w3.heap.size,t,none⟩=false:=fun v=>(Ht v).frozen t
       have HRQ8:=Lib.hid (fun(v:Value) (x:Nat)=>(Ht v).set t x);have HRO8:=Lib.hid (fun(x:Nat) (v:Value)=>(HRS.out x).qk (w':=(wr.setCell ⟨g,t+k,none⟩ (.int .u32 (x:Int))).setCell ⟨w3.heap.size,t,none⟩ v) (by simp only[World.setCell,eG];rw[aQ ae]));have HSV8:=Lib.hid (fun(v v2:Value)=>(HSV5.out.pR (fun b' o _ e=>by cases e;exact H8) (HOS.out v)).Ry (b:=w3.heap.size) ae t v2);have HE8:=Lib.hid (fun(v v2:Value)=>(Fp.iy.only HE5.out (HOS.out v) SO).setCell (p:=⟨w3.heap.size,t,none⟩) (by show w.heap.size<=w3.heap.size;omega) v2);clear Ht HRS HOS zP EB HP q1 q2 q3 q4 q5 pY ns HL2;generalize O2.getD (t+k) 0=u at *
       have xj:((t:Int)+(k:Int)).toNat=t+k:= ae ;have wh:0<=(t:Int)+(k:Int):= ae ;have SR:(t:Int)+(k:Int)<(lx:Int)+1:= ae ;have hi4:IntKind.u32.wrap ((u:Int)+(c':Int))=(((u+c')%4294967296:Nat):Int):=by rw[IntKind.wrap_u32];omega
       generalize (u+c')%4294967296=uu at *
       go_wp2;go_roundw
       case rel=>exact⟨t,O2.set (t+k) uu,Q.set t (gd-1),ae,by go_num,HDS.out,HRO8.out _ _,HRQ8.out _ _,HSV8.out _ _,HE8.out _ _⟩
       case measure=>simp[intOf]
open Go.RowKit Fp Pu
theorem akv:E.le (.v (.slice none 0 0)) (gX []):=fun bs br w v h=>by
 obtain rfl:=iG.kK h;exact .sl false 0 1 _ none 0 (fun _ _=>undef) (aU _) ag (fun _=>rfl) (fun i j hi=>absurd hi (bj i)) (fun i j hi=>absurd hi (bj i)) (fun i j hi=>absurd hi (bj i)) (fun i j hi=>absurd hi (bj i))
theorem akw{x:Nat}:E.le (.sl false 1 1 fun i_ j_=>[(.v (.int .u32 (x:Int)))].getD (i_*1+j_) (.v (.bool false))) (gX [x]):=.sl fun i j hi hj=>by
 obtain rfl:i=0:= ae ;obtain rfl:j=0:= ae ;exact⟨.refl _,rfl⟩
theorem Qq(L:List Nat)(hk:iC L):gU 128 [gX L] (gX L):=Fu hk Tryz.call128 (fun A c w h _=>KD A c L w h) fun A c B w e w' h hB ⟨h1,h2⟩=>by
 subst h2;exact⟨_,h1,Below.refl _ _,xF hB (Below.refl _ _) ⟨aU _,h.len,h.ok,fun hn=>by have:=h.wG hn;have:=h.cap;omega,h.cell⟩⟩
theorem Qr(L:List Nat)(hk:iC L)(hl:L.length<=1000000):gU 129 [gX L] (gX L):=Fu hk Tryz.call129 (fun A c w h _=>KE A c L w h ae) fun A c B w e w' h hB r=>rl B w e w' hB r
theorem agG(L M:List Nat)(hL:iC L)(hM:iC M)(h1:L.length<=100000)(h2:M.length<=100000)(hc:kg (val (ik L)) (val (ik M))<0):gU 319 [(gX L),(gX M)] (.iw [gX [],gX (ik L)]):=by
 have ta:=oH L;have tb:=oH M;unfold lV at ta tb;exact tr true Tryz.call319 Tryz.func319 (chain [.c (tC _ af:gU 167 [(gX L)] _),.c (tC _ af:gU 167 [(gX M)] _),.c (M5 _ _ (iC.ik af) (iC.ik af) ae ae:gU 131 [(gX (ik L)),(gX (ik M))] _),tB 25 (aS hc),.c (Qr _ (iC.ik af) ae:gU 129 [(gX (ik L))] _)]<|rR (.iw [gX [],gX (ik L)]) (.iw (.cons akv (.cons (.refl _) .nil)):E.le (.iw [(.v (.slice none 0 0)),(gX (ik L))]) (.iw [gX [],gX (ik L)]))) ah 
theorem agH(L M:List Nat)(hL:iC L)(hM:iC M)(h1:L.length<=100000)(h2:M.length<=100000)(hc:¬kg (val (ik L)) (val (ik M))<0)(hl:(ik M).length=1)(uZ:0<(ik M).getD 0 0)(tg:(ik M).getD 0 0<4294967296):gU 319 [(gX L),(gX M)] (.iw [gX (iK (val (ik L)/(ik M).getD 0 0) (ik L).length),gX [val (ik L)%(ik M).getD 0 0]]):=by
 have ta:=oH L;have tb:=oH M;unfold lV at ta tb;exact tr true Tryz.call319 Tryz.func319 (chain [.c (tC _ af:gU 167 [(gX L)] _),.c (tC _ af:gU 167 [(gX M)] _),.c (M5 _ _ (iC.ik af) (iC.ik af) ae ae:gU 131 [(gX (ik L)),(gX (ik M))] _),tB 25 (aT hc),tB 30 (by rw[hl];rfl:(((ik M).length:Int)==1)=true),iX (0) ((ik M).length) ae,.c (agN (ik L) ((ik M).getD 0 0) (iC.ik af) ae uZ tg)]<|rR (.iw [gX (iK (val (ik L)/(ik M).getD 0 0) (ik L).length),gX [val (ik L)%(ik M).getD 0 0]]) (.iw (.cons (.refl _) (.cons akw .nil)):E.le (.iw [(gX (iK (val (ik L)/((ik M).getD 0 0)) (ik L).length)),(.sl false 1 1 fun i_ j_=>[(.v (.int .u32 (((val (ik L)%((ik M).getD 0 0)):Nat):Int)))].getD (i_*1+j_) (.v (.bool false)))]) (.iw [gX (iK (val (ik L)/(ik M).getD 0 0) (ik L).length),gX [val (ik L)%(ik M).getD 0 0]]))) ah 
theorem M6(L M:List Nat)(hL:iC L)(hM:iC M)(h1:L.length<=100000)(h2:M.length<=100000)(h0:val M≠0):∃ T S:List Nat,gU 319 [gX L,gX M] (.iw [gX T,gX S])/\val T=val L/val M/\val S=val L%val M/\iC T/\iC S/\T.length<=L.length/\S.length<=L.length+1:=by
 have ta:=oH L;have tb:=oH M;unfold lV at ta tb;have e1:=ot L;have e2:=ot M;by_cases hc:kg (val (ik L)) (val (ik M))<0
 .refine ⟨[],ik L,agG L M hL hM h1 h2 hc,?_,?_,iC.nil,hL.ik,bL _,ae⟩
  .rw [e1,e2]at hc
   have:val L<val M:=by unfold kg at hc;split at hc<;>(try split at hc)<;>omega
   rw[bS this];rfl
  .rw [e1,e2]at hc
   have:val L<val M:=by unfold kg at hc;split at hc<;>(try split at hc)<;>omega
   rw[bu this,e1]
 .have pX:val M<=val L:=by rw[e1,e2]at hc;unfold kg at hc;split at hc<;>(try split at hc)<;>omega
  have kI:ik M≠[]:=by intro h;rw[h]at e2;exact h0 e2.symm
  have hlen:(ik M).length≠0:=by simpa using kI
  by_cases hl:(ik M).length=1
  .obtain ⟨x,hx⟩:=List.length_eq_one_iff.1 hl
   have kX:=hM.ik;rw[hx]at kX;have Tz:x=val M:=by rw[<-e2,hx];simp[val]
   have hg:(ik M).getD 0 0=x:=by rw[hx];rfl
   have:=agH L M hL hM h1 h2 hc hl (by rw[hg];omega) (by rw[hg];exact kX.head);rw[hg]at this;refine⟨_,_,this,?_,?_,r9 _ _,iC.cons (fk (bg _ ae) kX.head) iC.nil,by rw[mF];exact ta,aj⟩
   .rw [uD,bu,e1,Tz]
    exact bQ (bw _ _) (lZ hL.ik)
   .simp [val,e1,Tz]
  .refine ⟨_,_,As hL hM Tryz.call319 (fun A c B d w h k hT=>abC A B c d L M w _ _ _ rfl rfl rfl h k hT h1 h2 pX ae) (fun B w e w' hB ⟨A1,c1,B1,d1,q1,q2,q3,q4⟩=>⟨_,q1,q4,kr.iw (.cons (xF hB q4 q2) (.cons (xF hB q4 q3) (.nil _ _ _)))⟩),?_,?_,r9 _ _,An _ _,?_,?_⟩
   .rw [uD,bu]
    rw[bR ae];have g1:=lZ hL.ik;rw[e1]at g1;refine bD g1 ?_;obtain⟨l,pK⟩:∃ l,(ik M).length=l+1:=⟨(ik M).length-1,ae⟩
    have g2:4294967296^l<=val M:=by
     apply bE;intro q;have q2:(gV (val M)).length<=l:=q9 ae;rw[<-qy hM]at q2;omega
    have g3:=ca (4294967296^((ik L).length+1-(ik M).length)) g2;rw[<-aV]at g3;refine aX ?_ g3;exact bh ag ae 
   .rw [JU (kA _),jD,dt _ (aY ag)]
   .rw [mF];omega
   .rw [JA,ep]
    have hb:32-ib ((ik M).getD ((ik M).length-1) 0)<33:= ae ;have:=agd (kA (val L%val M)) (32-ib ((ik M).getD ((ik M).length-1) 0));rw[jD]at this;have h3:(gV (val L%val M)).length<=(gV (val L)).length:=lX (dk _ _);rw[<-qy hL]at h3;omega
theorem yN(m n:Nat)(h1:(gV m).length<=256)(h2:(gV n).length<=256)(h0:n≠0):gU 296 [gX (gV m),gX (gV n)] (.iw [gX (gV (m/n)),gX (gV (m%n)),iP 0]):=by
 obtain⟨T,S,Er,hT,hS,oT,oS,_,_⟩:=M6 (gV m) (gV n) (kA m) (kA n) ae ae (by rw[jD];exact h0);rw[jD,jD]at hT hS;have hz:ik (gV n)=gV n:=vD n;have hl:=pS h0;have ns:(((ik (gV n)).length:Int)==0)=false:=by rw[hz];exact nx hl
 exact tr true Tryz.call296 Tryz.func296 (chain [.c (UZ (gV m) (gV n) af af),.c (tC _ (kA _):gU 167 [(gX (gV n))] _),tB 18 (ns:(((ik (gV n)).length:Int)==0)=false),.c (Er:gU 319 [(gX (gV m)),(gX (gV n))] _),.c (tC _ af:gU 167 [(gX T)] _),.c (Qq _ (iC.ik af):gU 128 [(gX (ik T))] _),.c (tC _ af:gU 167 [(gX S)] _),.c (Qq _ (iC.ik af):gU 128 [(gX (ik S))] _)]<|rQ (.iw [(gX (ik T)),(gX (ik S)),(iP 0)]) (.iw [gX (gV (m/n)),gX (gV (m%n)),iP 0]) (by rw[qy oT,qy oS,hT,hS])) ah 
open Go.RowKit Fp Pu
theorem Wk(a b:Dy)(p:Nat)(up:Bool)(ha:a.ia)(hb:b.ia)(b0:b.m≠0)(il:8<=p)(ic:p<=512):gU 275 [(gY a),(gY b),(iP p),(bP up)] (.iw [gY (kt a b p up),iP (nd a b p up)]):=by
 by_cases a0:a.m=0
 .have e1:kt a b p up=jA/\nd a b p up=0:=by unfold kt nd;rw[aR a0,aR a0];exact⟨rfl,rfl⟩
  exact tr true Tryz.call275 Tryz.func275 (chain [.o 18 (.e (vR _ _):PV.le (.e (.sl true 2 3 fun i_ j_=>(jq a++jq b).getD (i_*3+j_) (.v (.bool false)))) (.e (np [a,b]))),.c (wH _ _ _ af af ae ae:gU 177 [(iP p),(np [a,b])] _),tB 21 (ag:((0:Int) != 0)=false),tB 28 (nx (pS b0):(((gV b.m).length:Int)==0)=false),tB 34 (rX (qT.2 a0):(((gV a.m).length:Int)==0)=true),.o 35 (.e vE:PV.le (.e (.agg [(bP false),(.v (.slice none 0 0)),(iP 0)])) (.e (gY jA)))]<|rQ (.iw [(gY jA),(iP 0)]) (.iw [gY (kt a b p up),iP (nd a b p up)]) (by rw[e1.1,e1.2])) ah 
 .have va:=ha.gV
  have vb:=hb.gV;have xa:=ha.exp;have xb:=hb.exp;have ra:=ha.range.resolve_left a0;have rb:=hb.range.resolve_left b0;have pa:=mS a0;have pb:=mS b0;have hK:kn a b p 3=p+3+ib b.m-ib a.m:=rfl;have bs:=qo a0 (kn a b p 3);have z1:(gV (a.m*2^kn a b p 3)).length<=256:=nh ae;have hq:=KM a0 b0 p 3 ag;have q0:a.m*2^kn a b p 3/b.m≠0:=by intro q;rw[q,qX]at hq;omega
  have z2:(gV (a.m*2^kn a b p 3/b.m)).length<=256:=nh (by have:=sZ (bw (a.m*2^kn a b p 3) b.m);omega);have z3:(gV (a.m*2^kn a b p 3%b.m)).length<=256:=nh (by have:=sZ (cW (bg (a.m*2^kn a b p 3) (dB b0)));omega);have jI:decide (0<(ib (a.m*2^kn a b p 3%b.m):Int))=decide (a.m*2^kn a b p 3%b.m≠0):=by
   by_cases h:a.m*2^kn a b p 3%b.m=0
   .rw [h,qX];rfl
   .have:=mS h
    rw[aS h,aS ae]
  obtain⟨d1,d2⟩:=abA a0 b0 p up;have h0:a.m*2^kn a b p 3/b.m≠0\/a.m*2^kn a b p 3/b.m=0/\a.e-(kn a b p 3:Int)-b.e=0/\decide (0<(ib (a.m*2^kn a b p 3%b.m):Int))=false:=.inl q0;have hm:decide (0<(ib (a.m*2^kn a b p 3%b.m):Int))=true->p<ib (a.m*2^kn a b p 3/b.m):=fun _=>hq
  exact tr true Tryz.call275 Tryz.func275 (chain [.o 18 (.e (vR _ _):PV.le (.e (.sl true 2 3 fun i_ j_=>(jq a++jq b).getD (i_*3+j_) (.v (.bool false)))) (.e (np [a,b]))),.c (wH _ _ _ af af ae ae:gU 177 [(iP p),(np [a,b])] _),tB 21 (ag:((0:Int) != 0)=false),tB 28 (nx (pS b0):(((gV b.m).length:Int)==0)=false),tB 34 (nx (pS a0):(((gV a.m).length:Int)==0)=false),iq ((p:Int)+3) ae,.c (G3 _ af:gU 295 [(gY b)] _),iq (((p:Int)+3)+(ib (Dy.m b):Int)) ae,.c (G3 _ af:gU 295 [(gY a)] _),
   iq ((((p:Int)+3)+(ib (Dy.m b):Int))-(ib (Dy.m a):Int)) ae,.o 44 (.int au:PV.le (.e (iP (if((((p:Int)+3)+(ib (Dy.m b):Int))-(ib (Dy.m a):Int))>0 then((((p:Int)+3)+(ib (Dy.m b):Int))-(ib (Dy.m a):Int))else 0))) (.e (iP (kn a b p 3:Int)))),.c (vv a.m (kn a b p 3) ae ae ae),.c (yN _ _ ae ae af:gU 296 [(gX (gV (a.m*2^(kn a b p 3)))),(gX (gV b.m))] _),
   iq (a.e-(kn a b p 3:Int)) ae,iq ((a.e-(kn a b p 3:Int))-b.e) ae,.c (sr _ ae:gU 194 [(gX (gV ((a.m*2^(kn a b p 3))%b.m)))] _),.c (FJ (! (a.neg==b.neg)) ((a.m*2^(kn a b p 3))/b.m) ((a.e-(kn a b p 3:Int))-b.e) (decide (0<(ib ((a.m*2^(kn a b p 3))%b.m):Int))) up p ae af ae ae ae ae af)]<|rQ (.iw [(gY (jP (!(a.neg==b.neg)) ((a.m*2^(kn a b p 3))/b.m) ((a.e-(kn a b p 3:Int))-b.e) (decide (0<(ib ((a.m*2^(kn a b p 3))%b.m):Int))) p up)),(iP (jG (!(a.neg==b.neg)) ((a.m*2^(kn a b p 3))/b.m) ((a.e-(kn a b p 3:Int))-b.e) (decide (0<(ib ((a.m*2^(kn a b p 3))%b.m):Int))) p up))]) (.iw [gY (kt a b p up),iP (nd a b p up)]) (by rw[<-d1,<-d2,<-jI];rfl)) ah 
theorem Wi(a b:Dy)(p:Nat)(ha:a.ia)(hb:b.ia)(b0:b.m≠0)(il:8<=p)(ic:p<=512):gU 236 [(gY a),(gY b),(iP p)] (.iw [gY (kt a b p false),iP (nd a b p false)]):=by
 exact tr true Tryz.call236 Tryz.func236 (chain [.c (Wk _ _ _ _ af af af ae ae:gU 275 [(gY a),(gY b),(iP p),(bP false)] _)]<|.nil) ah 
theorem Wj(a b:Dy)(p:Nat)(ha:a.ia)(hb:b.ia)(b0:b.m≠0)(il:8<=p)(ic:p<=512):gU 237 [(gY a),(gY b),(iP p)] (.iw [gY (kt a b p true),iP (nd a b p true)]):=by
 exact tr true Tryz.call237 Tryz.func237 (chain [.c (Wk _ _ _ _ af af af ae ae:gU 275 [(gY a),(gY b),(iP p),(bP true)] _)]<|.nil) ah 
open Go.RowKit Fp Pu
def T5(l:List Iv)(i:Nat):PS:=⟨19,true,[(7,.e (iP i)),(6,.e (iP l.length)),(5,.e (ig l))],[]⟩
def T4(l:List Iv)(N:Nat)(i:Nat):PS:=⟨19,true,[(7,.e (iP i)),(6,.e (iP l.length)),(5,.e (ig l))],[]⟩
theorem mC(a:Iv):E.le (.sl true 1 7 fun i j=>(iZ a).getD (i*7+j) (.v (.bool false))) (ig [a]):=.sl fun i j hi hj=>by
 obtain rfl:i=0:= ae ;rcases j with _|_|_|_|_|_|_|j
 all_goals first|exact⟨.refl _,rfl⟩|omega
theorem yF(a b:Iv):E.le (.sl true 2 7 fun i j=>(iZ a++iZ b).getD (i*7+j) (.v (.bool false))) (ig [a,b]):=.sl fun i j hi hj=>by
 obtain rfl|rfl:i=0\/i=1:= ae 
 all_goals
  rcases j with _|_|_|_|_|_|_|j
  all_goals first|exact⟨.refl _,rfl⟩|omega
theorem oX{x:Iv}(h:x.ia)(ha:x.all=false):x.lo.ia/\x.hi.ia/\jo x.lo x.hi<=0:=by
 rcases h with⟨h1,_⟩|⟨_,h⟩
 .rw [ha]at h1;cases h1
 .exact h
theorem MH{x:Iv}(h:x.ia)(ha:x.all=true):x.lo=jA/\x.hi=jA:=by
 rcases h with⟨_,h⟩|⟨h1,_⟩
 .exact h
 .rw [ha]at h1;cases h1
theorem nu : gU 69 [] (gZ ie):=by
 exact tr true Tryz.call69 Tryz.func69 (chain [.o 1 (.e Ga:PV.le (.e (.agg [(bP false),(.v (.slice none 0 0)),(iP 0),(bP false),(.v (.slice none 0 0)),(iP 0),(bP true)])) (.e (gZ ie)))]<|.nil) ah 
theorem BB(lo hi:Dy)(e f:Int):gU 90 [(gY lo),(iP e),(gY hi),(iP f)] (gZ (kE lo e hi f)):=by
 by_cases he:e=0
 .by_cases hf:f=0
  .exact tr true Tryz.call90 Tryz.func90 (chain [tB 10 (by rw[he];rfl:(e != 0)=false),tB 13 (by rw[hf];rfl:(f != 0)=false)]<|rQ (gZ (Iv.mk lo hi false)) (gZ (kE lo e hi f)) (by rw[show kE lo e hi f=⟨lo,hi,false⟩by unfold kE;rw[aQ (by simp[he,hf])]];try rfl)) ah 
  .exact tr true Tryz.call90 Tryz.func90 (chain [tB 10 (by rw[he];rfl:(e != 0)=false),tB 13 (by simpa using hf:(f != 0)=true),.c (nu:gU 69 [] _)]<|rQ (gZ ie) (gZ (kE lo e hi f)) (by rw[show kE lo e hi f=ie by unfold kE;rw[aR (.inr hf)]])) ah 
 .exact tr true Tryz.call90 Tryz.func90 (chain [tB 10 (by simpa using he:(e != 0)=true),.c (nu:gU 69 [] _)]<|rQ (gZ ie) (gZ (kE lo e hi f)) (by rw[show kE lo e hi f=ie by unfold kE;rw[aR (.inl he)]])) ah 
theorem T9 : gU 137 [(gY jA)] (bP true):=by
 exact tr true Tryz.call137 Tryz.func137 (chain [tB 4 (rfl:jA.neg=false),tB 10 (rX (qT.2 rfl):(((gV jA.m).length:Int)==0)=true),tB 15 (rfl:(jA.e==0)=true)]<|.nil) ah 
theorem qS(x:Iv)(hx:x.ia):gU 84 [(gZ x)] (bP true):=by
 by_cases ky:x.all=true
 .obtain ⟨h1,h2⟩:=MH hx ky
  exact tr true Tryz.call84 Tryz.func84 (chain [tB 5 (ky:x.all=true),.c (by rw[h1];exact T9:gU 137 [(gY x.lo)] (bP true)),.c (by rw[h2];exact T9:gU 137 [(gY x.hi)] (bP true))]<|.nil) ah 
 .replace ky:x.all=false:=by simpa using ky
  obtain⟨h1,h2,h3⟩:=oX hx ky;exact tr true Tryz.call84 Tryz.func84 (chain [tB 5 (ky:x.all=false),.c (qp _ af:gU 68 [(gY x.lo)] _),.c (qp _ af:gU 68 [(gY x.hi)] _),.c (nT _ _ af af:gU 37 [(gY x.lo),(gY x.hi)] _),tB 30 (aS h3)]<|.nil) ah 
theorem T6(l:List Iv)(hl:l.length<=1000)(hv:∀ i,i<l.length->(l.getD i ie).ia)(ha:∀ i,i<l.length->(l.getD i ie).all=false):gU 86 [(ig l)] (bP true):=by
 exact tr true Tryz.call86 Tryz.func86 (chain [.s (Sp.jx (T5 l) 0 l.length ae (fun i hi pL=>by
    have Tp:=hv i ae;have LG:=ha i ae;exact iB (chain [tT 8 ((i:Int)<(l.length:Int)) ae,iX ((i:Int)) (l.length) ae,tB 12 (LG:(l.getD i ie).all=false),.c (qS _ af:gU 84 [(gZ (l.getD i ie))] _),
     iq ((i:Int)+1) ae]<|.nil) ah)
  (fun hi=>by
    exact iB (chain [tF 8 ((l.length:Int)<(l.length:Int)) ae]<|.nil) ah) ak:ju 2 Tryz.f86 (T5 l 0) (.exit 0) ⟨19,true,[],[]⟩) .nil]<|.nil) ah 
theorem MF(l:List Iv)(hl:l.length<=1000)(hv:∀ i,i<l.length->(l.getD i ie).ia)(N:Nat)(hN:N<l.length)(ha:∀ i,i<N->(l.getD i ie).all=false)(sc:(l.getD N ie).all=true):gU 86 [(ig l)] (bP false):=by
 exact tr true Tryz.call86 Tryz.func86 (chain [.s (Sp.jx (T4 l N) 0 N ae (fun i hi pL=>by
    have Tp:=hv i ae;have LG:=ha i ae;exact iB (chain [tT 8 ((i:Int)<(l.length:Int)) ae,iX ((i:Int)) (l.length) ae,tB 12 (LG:(l.getD i ie).all=false),.c (qS _ af:gU 84 [(gZ (l.getD i ie))] _),
     iq ((i:Int)+1) ae]<|.nil) ah)
  (fun hi=>by
    exact iB (chain [tT 8 ((N:Int)<(l.length:Int)) ae,iX ((N:Int)) (l.length) ae,tB 12 (sc:(l.getD N ie).all=true)]<|.nil) ah) ak:ju 2 Tryz.f86 (T4 l N 0) .ret ⟨19,true,[(2,.e (bP false))],[]⟩) .nil]<|.nil) ah 
theorem pQ(x:Iv)(hx:x.ia):gU 86 [ig [x]] (bP (!x.all)):=by
 have hv:∀ i,i<[x].length->([x].getD i ie).ia:=fun i hi=>(match i,hi with
  | 0,_=>hx
  |n+1,hi=>absurd hi aj)
 cases ky:x.all with
 |true=>exact MF [x] aj hv 0 aj (fun i hi=>absurd hi (bj i)) ky
 |false=>exact T6 [x] aj hv (fun i hi=>(match i,hi with
  | 0,_=>ky
  |n+1,hi=>absurd hi aj))
theorem yE(x y:Iv)(hx:x.ia)(hy:y.ia):gU 86 [ig [x,y]] (bP (!(x.all||y.all))):=by
 have hv:∀ i,i<[x,y].length->([x,y].getD i ie).ia:=fun i hi=>(match i,hi with
  | 0,_=>hx
  | 1,_=>hy
  |n+2,hi=>absurd hi aj)
 cases ky:x.all with
 |true=>exact MF [x,y] aj hv 0 aj (fun i hi=>absurd hi (bj i)) ky
 |false=>cases Ab:y.all with
  |true=>exact MF [x,y] aj hv 1 aj (fun i hi=>(match i,hi with
   | 0,_=>ky
   |n+1,hi=>absurd hi ae)) Ab
  |false=>exact T6 [x,y] aj hv (fun i hi=>(match i,hi with
   | 0,_=>ky
   | 1,_=>Ab
   |n+2,hi=>absurd hi aj))
theorem C2(x y:Iv)(p:Nat)(hx:x.ia)(hy:y.ia)(il:8<=p)(ic:p<=512):gU 44 [(gZ x),(gZ y),(iP p)] (gZ (jk x y p)):=by
 by_cases hk:(x.all||y.all)=true
 .exact tr true Tryz.call44 Tryz.func44 (chain [.o 13 (.e (yF _ _):PV.le (.e (.sl true 2 7 fun i_ j_=>(iZ x++iZ y).getD (i_*7+j_) (.v (.bool false)))) (.e (ig [x,y]))),.c (yE _ _ af af:gU 86 [(ig [x,y])] _),tB 14 (by rw[hk];rfl:(!(x.all||y.all))=false),.c (nu:gU 69 [] _)]<|rQ (gZ ie) (gZ (jk x y p)) (by rw[show jk x y p=ie by unfold jk;rw[aR hk]])) ah 
 .replace hk:(x.all||y.all)=false:=by simpa using hk
  have ky:x.all=false:=by cases h:x.all;rfl;rw[h]at hk;simp at hk
  have Ab:y.all=false:=by cases h:y.all;rfl;rw[h]at hk;simp at hk
  obtain⟨v1,v2,v3⟩:=oX hx ky;obtain⟨v4,v5,v6⟩:=oX hy Ab;exact tr true Tryz.call44 Tryz.func44 (chain [.o 13 (.e (yF _ _):PV.le (.e (.sl true 2 7 fun i_ j_=>(iZ x++iZ y).getD (i_*7+j_) (.v (.bool false)))) (.e (ig [x,y]))),.c (yE _ _ af af:gU 86 [(ig [x,y])] _),tB 14 (by rw[hk];rfl:(!(x.all||y.all))=true),.c (vf _:gU 87 [(iP p)] _),tB 18 (o0.2 ⟨ae,ae⟩:(lp (p:Int))=true),.c (aiL x.lo y.lo p af af ae ae),.c (Wg x.hi y.hi p af af ae ae),.c (BB _ _ _ _:gU 90 [(gY (jj (iI x.lo y.lo) p false)),(iP (jz (iI x.lo y.lo) p false)),(gY (jj (iI x.hi y.hi) p true)),(iP (jz (iI x.hi y.hi) p true))] _)]<|rQ (gZ (kE (jj (iI x.lo y.lo) p false) (jz (iI x.lo y.lo) p false) (jj (iI x.hi y.hi) p true) (jz (iI x.hi y.hi) p true))) (gZ (jk x y p)) (by rw[show jk x y p=_ by unfold jk;rw[aQ (by rw[hk];decide)]])) ah 
theorem T7(x:Iv)(hx:x.ia):gU 240 [(gZ x)] (gZ (qJ x)):=by
 by_cases ky:x.all=true
 .exact tr true Tryz.call240 Tryz.func240 (chain [.o 4 (.e (mC _):PV.le (.e (.sl true 1 7 fun i_ j_=>(iZ x).getD (i_*7+j_) (.v (.bool false)))) (.e (ig [x]))),.c (pQ _ af:gU 86 [(ig [x])] _),tB 5 (by rw[ky];rfl:(!x.all)=false),.c (nu:gU 69 [] _)]<|rQ (gZ ie) (gZ (qJ x)) (by rw[show qJ x=ie by unfold qJ;rw[aR ky]])) ah 
 .replace ky:x.all=false:=by simpa using ky
  obtain⟨v1,v2,v3⟩:=oX hx ky;exact tr true Tryz.call240 Tryz.func240 (chain [.o 4 (.e (mC _):PV.le (.e (.sl true 1 7 fun i_ j_=>(iZ x).getD (i_*7+j_) (.v (.bool false)))) (.e (ig [x]))),.c (pQ _ af:gU 86 [(ig [x])] _),tB 5 (by rw[ky];rfl:(!x.all)=true),.c (xW _ af:gU 191 [(gY x.hi)] _),.c (xW _ af:gU 191 [(gY x.lo)] _)]<|rQ (gZ (Iv.mk (iF x.hi) (iF x.lo) false)) (gZ (qJ x)) (by rw[show qJ x=⟨iF x.hi,iF x.lo,false⟩by unfold qJ;rw[aQ (by rw[ky];decide)]];try rfl)) ah 
theorem afI(x y:Iv)(p:Nat)(hx:x.ia)(hy:y.ia)(il:8<=p)(ic:p<=512):gU 238 [(gZ x),(gZ y),(iP p)] (gZ (FV x y p)):=by
 have hn:=Fj hy;exact tr true Tryz.call238 Tryz.func238 (chain [.c (T7 _ af:gU 240 [(gZ y)] _),.c (C2 _ _ _ af af ae ae:gU 44 [(gZ x),(gZ (qJ y)),(iP p)] _)]<|.nil) ah 
theorem C4(d:Dy)(hd:d.ia):gU 29 [(gY d)] (gZ (mf d)):=by
 exact tr true Tryz.call29 Tryz.func29 (chain [.c (qp _ af:gU 68 [(gY d)] _)]<|.nil) ah 
theorem D7(d:Dy)(hd:d.ia):gU 302 [(gY d)] (gY (k0 d)):=by
 have hl:=hd.gV;by_cases h0:d.m=0
 .have e1:k0 d=jA:=by
   rcases hd.canon with q|q
   .unfold k0 jA;rw[q.1,q.2.2]
   .omega
  exact tr true Tryz.call302 Tryz.func302 (chain [.c (qp _ af:gU 68 [(gY d)] _),tB 10 (rX (qT.2 h0):(((gV d.m).length:Int)==0)=true),.o 12 (.e vE:PV.le (.e (.agg [(bP false),(.v (.slice none 0 0)),(iP 0)])) (.e (gY jA)))]<|rQ (gY jA) (gY (k0 d)) (by rw[e1])) ah 
 .exact tr true Tryz.call302 Tryz.func302 (chain [.c (qp _ af:gU 68 [(gY d)] _),tB 10 (nx (pS h0):(((gV d.m).length:Int)==0)=false),.c (Qr _ (kA _) ae:gU 129 [(gX (gV d.m))] _)]<|.nil) ah 
theorem IJ(a b:Dy)(ha:a.ia)(hb:b.ia):gU 192 [(gY a),(gY b)] (gY (iV a b)):=by
 have hc:=wT a b;by_cases h:(jo a b<=0)
 .exact tr true Tryz.call192 Tryz.func192 (chain [.c (nT _ _ af af:gU 37 [(gY a),(gY b)] _),tB 8 (aS h)]<|rQ (gY a) (gY (iV a b)) (by unfold iV;rw[aQ ae])) ah 
 .exact tr true Tryz.call192 Tryz.func192 (chain [.c (nT _ _ af af:gU 37 [(gY a),(gY b)] _),tB 8 (aT h)]<|rQ (gY b) (gY (iV a b)) (by unfold iV;rw[aR ae])) ah 
theorem IK(a b:Dy)(ha:a.ia)(hb:b.ia):gU 193 [(gY a),(gY b)] (gY (iR a b)):=by
 have hc:=wT a b;by_cases h:(0<=jo a b)
 .exact tr true Tryz.call193 Tryz.func193 (chain [.c (nT _ _ af af:gU 37 [(gY a),(gY b)] _),tB 8 (aS h)]<|rQ (gY a) (gY (iR a b)) (by unfold iR;rw[aQ ae])) ah 
 .exact tr true Tryz.call193 Tryz.func193 (chain [.c (nT _ _ af af:gU 37 [(gY a),(gY b)] _),tB 8 (aT h)]<|rQ (gY b) (gY (iR a b)) (by unfold iR;rw[aR ae])) ah 
theorem IM(x:Iv)(hx:x.ia):gU 276 [(gZ x)] (iP (lN x)):=by
 by_cases ky:x.all=true
 .exact tr true Tryz.call276 Tryz.func276 (chain [.o 5 (.e (mC _):PV.le (.e (.sl true 1 7 fun i_ j_=>(iZ x).getD (i_*7+j_) (.v (.bool false)))) (.e (ig [x]))),.c (pQ _ af:gU 86 [(ig [x])] _),tB 6 (by rw[ky];rfl:(!x.all)=false)]<|rQ (iP 0) (iP (lN x)) (by rw[show lN x=0 by unfold lN;rw[aR ky]])) ah 
 .replace ky:x.all=false:=by simpa using ky
  obtain⟨v1,v2,v3⟩:=oX hx ky;by_cases h1:0<x.lo.iJ
  .exact tr true Tryz.call276 Tryz.func276 (chain [.o 5 (.e (mC _):PV.le (.e (.sl true 1 7 fun i_ j_=>(iZ x).getD (i_*7+j_) (.v (.bool false)))) (.e (ig [x]))),.c (pQ _ af:gU 86 [(ig [x])] _),tB 6 (by rw[ky];rfl:(!x.all)=true),.c (nU _ af:gU 35 [(gY x.lo)] _),tB 12 (aS h1)]<|rQ (iP 1) (iP (lN x)) (by rw[show lN x=1 by unfold lN;rw[aQ (by rw[ky];decide)];simp[h1]])) ah 
  .by_cases h2:x.hi.iJ<0
   .exact tr true Tryz.call276 Tryz.func276 (chain [.o 5 (.e (mC _):PV.le (.e (.sl true 1 7 fun i_ j_=>(iZ x).getD (i_*7+j_) (.v (.bool false)))) (.e (ig [x]))),.c (pQ _ af:gU 86 [(ig [x])] _),tB 6 (by rw[ky];rfl:(!x.all)=true),.c (nU _ af:gU 35 [(gY x.lo)] _),tB 12 (aT h1),.c (nU _ af:gU 35 [(gY x.hi)] _),tB 17 (aS h2)]<|rQ (iP (-1)) (iP (lN x)) (by rw[show lN x = -1 by unfold lN;rw[aQ (by rw[ky];decide)];simp[h1,h2]])) ah 
   .exact tr true Tryz.call276 Tryz.func276 (chain [.o 5 (.e (mC _):PV.le (.e (.sl true 1 7 fun i_ j_=>(iZ x).getD (i_*7+j_) (.v (.bool false)))) (.e (ig [x]))),.c (pQ _ af:gU 86 [(ig [x])] _),tB 6 (by rw[ky];rfl:(!x.all)=true),.c (nU _ af:gU 35 [(gY x.lo)] _),tB 12 (aT h1),.c (nU _ af:gU 35 [(gY x.hi)] _),tB 17 (aT h2)]<|rQ (iP 0) (iP (lN x)) (by rw[show lN x=0 by unfold lN;rw[aQ (by rw[ky];decide)];simp[h1,h2]])) ah 
theorem MG(x:Iv)(hx:x.ia)(ky:x.all=false):gU 298 [(gZ x)] (.iw [gY (my x),bP true]):=by
 obtain⟨v1,v2,v3⟩:=oX hx ky;have w1:=rI v1;have w2:=rI v2;exact tr true Tryz.call298 Tryz.func298 (chain [.o 5 (.e (mC _):PV.le (.e (.sl true 1 7 fun i_ j_=>(iZ x).getD (i_*7+j_) (.v (.bool false)))) (.e (ig [x]))),.c (pQ _ af:gU 86 [(ig [x])] _),tB 6 (by rw[ky];rfl:(!x.all)=true),.c (D7 _ af:gU 302 [(gY x.lo)] _),.c (D7 _ af:gU 302 [(gY x.hi)] _),.c (IK _ _ af af:gU 193 [(gY (k0 x.lo)),(gY (k0 x.hi))] _)]<|.nil) ah 
theorem afE(x:Iv)(hx:x.ia)(ky:x.all=false):gU 297 [(gZ x)] (.iw [gY (nj x),bP true]):=by
 obtain⟨v1,v2,v3⟩:=oX hx ky;have w1:=rI v1;have w2:=rI v2;by_cases hs:lN x=0
 .exact tr true Tryz.call297 Tryz.func297 (chain [.o 5 (.e (mC _):PV.le (.e (.sl true 1 7 fun i_ j_=>(iZ x).getD (i_*7+j_) (.v (.bool false)))) (.e (ig [x]))),.c (pQ _ af:gU 86 [(ig [x])] _),tB 6 (by rw[ky];rfl:(!x.all)=true),.c (IM _ af:gU 276 [(gZ x)] _),tB 11 (by rw[hs];rfl:((lN x)==0)=true),.o 12 (.e vE:PV.le (.e (.agg [(bP false),(.v (.slice none 0 0)),(iP 0)])) (.e (gY jA)))]<|rQ (.iw [(gY jA),(bP true)]) (.iw [gY (nj x),bP true]) (by rw[show nj x=jA by unfold nj;rw[aR hs]])) ah 
 .exact tr true Tryz.call297 Tryz.func297 (chain [.o 5 (.e (mC _):PV.le (.e (.sl true 1 7 fun i_ j_=>(iZ x).getD (i_*7+j_) (.v (.bool false)))) (.e (ig [x]))),.c (pQ _ af:gU 86 [(ig [x])] _),tB 6 (by rw[ky];rfl:(!x.all)=true),.c (IM _ af:gU 276 [(gZ x)] _),tB 11 (by simpa using hs:((lN x)==0)=false),.c (D7 _ af:gU 302 [(gY x.lo)] _),.c (D7 _ af:gU 302 [(gY x.hi)] _),.c (IJ _ _ af af:gU 192 [(gY (k0 x.lo)),(gY (k0 x.hi))] _)]<|rQ (.iw [(gY (iV (k0 x.lo) (k0 x.hi))),(bP true)]) (.iw [gY (nj x),bP true]) (by rw[show nj x=iV (k0 x.lo) (k0 x.hi)by unfold nj;rw[aQ hs]])) ah 
theorem ME(x:Iv)(hx:x.ia):gU 277 [(gZ x)] (gZ (iY x)):=by
 by_cases ky:x.all=true
 .exact tr true Tryz.call277 Tryz.func277 (chain [.o 8 (.e (mC _):PV.le (.e (.sl true 1 7 fun i_ j_=>(iZ x).getD (i_*7+j_) (.v (.bool false)))) (.e (ig [x]))),.c (pQ _ af:gU 86 [(ig [x])] _),tB 9 (by rw[ky];rfl:(!x.all)=false),.c (nu:gU 69 [] _)]<|rQ (gZ ie) (gZ (iY x)) (by rw[show iY x=ie by unfold iY;rw[aR ky]])) ah 
 .replace ky:x.all=false:=by simpa using ky
  obtain⟨v1,v2,v3⟩:=oX hx ky;exact tr true Tryz.call277 Tryz.func277 (chain [.o 8 (.e (mC _):PV.le (.e (.sl true 1 7 fun i_ j_=>(iZ x).getD (i_*7+j_) (.v (.bool false)))) (.e (ig [x]))),.c (pQ _ af:gU 86 [(ig [x])] _),tB 9 (by rw[ky];rfl:(!x.all)=true),.c (afE _ af ky:gU 297 [(gZ x)] _),.c (MG _ af ky:gU 298 [(gZ x)] _)]<|rQ (gZ (Iv.mk (nj x) (my x) false)) (gZ (iY x)) (by rw[show iY x=⟨nj x,my x,false⟩by unfold iY;rw[aQ (by rw[ky];decide)]];try rfl)) ah 
open Go.RowKit Fp Pu
def afA(x y:Iv)(p:Nat)(gd gu:FuncId)(DD:Dy->Dy->Bool->Dy)(EE:Dy->Dy->Bool->Int):PS:=⟨96,true,[(41,.e (iP 0)),(40,.e (.agg (iZ (Iv.mk x.lo y.lo x.lo.neg)++[(gX (gV x.lo.m)),(iP x.lo.e)]++iZ (Iv.mk y.hi x.hi y.lo.neg)++[(gX (gV y.lo.m)),(iP y.lo.e)]++jq x.hi++jq y.hi))),(12,.box 12 0),(10,.box 10 0),(2,.e (iP p)),(3,.e (.fn gd [])),(4,.e (.fn gu []))],[(12,.cells 41 (iZ (Iv.mk (DD x.lo y.lo false) (DD x.lo y.lo true) false))),(10,.cells 41 [(bP false),(.v (.slice none 0 0)),(iP 0),(bP false),(.v (.slice none 0 0)),(iP 0),(bP false)])]⟩
def afB(x y:Iv)(p:Nat)(gd gu:FuncId)(DD:Dy->Dy->Bool->Dy)(EE:Dy->Dy->Bool->Int):PS:=⟨96,true,[(41,.e (iP (0+1))),(40,.e (.agg (iZ (Iv.mk x.lo y.lo x.lo.neg)++[(gX (gV x.lo.m)),(iP x.lo.e)]++iZ (Iv.mk y.hi x.hi y.lo.neg)++[(gX (gV y.lo.m)),(iP y.lo.e)]++jq x.hi++jq y.hi))),(12,.box 12 0),(10,.box 10 0),(2,.e (iP p)),(3,.e (.fn gd [])),(4,.e (.fn gu []))],[(12,.cells 41 (iZ (Iv.mk (iV (DD x.lo y.lo false) (DD x.lo y.hi false)) (iR (DD x.lo y.lo true) (DD x.lo y.hi true)) false))),(10,.cells 41 [(bP false),(.v (.slice none 0 0)),(iP 0),(bP false),(.v (.slice none 0 0)),(iP 0),(bP false)])]⟩
def afC(x y:Iv)(p:Nat)(gd gu:FuncId)(DD:Dy->Dy->Bool->Dy)(EE:Dy->Dy->Bool->Int):PS:=⟨96,true,[(41,.e (iP ((0+1)+1))),(40,.e (.agg (iZ (Iv.mk x.lo y.lo x.lo.neg)++[(gX (gV x.lo.m)),(iP x.lo.e)]++iZ (Iv.mk y.hi x.hi y.lo.neg)++[(gX (gV y.lo.m)),(iP y.lo.e)]++jq x.hi++jq y.hi))),(12,.box 12 0),(10,.box 10 0),(2,.e (iP p)),(3,.e (.fn gd [])),(4,.e (.fn gu []))],[(12,.cells 41 (iZ (Iv.mk (iV (iV (DD x.lo y.lo false) (DD x.lo y.hi false)) (DD x.hi y.lo false)) (iR (iR (DD x.lo y.lo true) (DD x.lo y.hi true)) (DD x.hi y.lo true)) false))),(10,.cells 41 [(bP false),(.v (.slice none 0 0)),(iP 0),(bP false),(.v (.slice none 0 0)),(iP 0),(bP false)])]⟩
def afD(x y:Iv)(p:Nat)(gd gu:FuncId)(DD:Dy->Dy->Bool->Dy)(EE:Dy->Dy->Bool->Int):PS:=⟨96,true,[(41,.e (iP (((0+1)+1)+1))),(40,.e (.agg (iZ (Iv.mk x.lo y.lo x.lo.neg)++[(gX (gV x.lo.m)),(iP x.lo.e)]++iZ (Iv.mk y.hi x.hi y.lo.neg)++[(gX (gV y.lo.m)),(iP y.lo.e)]++jq x.hi++jq y.hi))),(12,.box 12 0),(10,.box 10 0),(2,.e (iP p)),(3,.e (.fn gd [])),(4,.e (.fn gu []))],[(12,.cells 41 (iZ (Iv.mk (iV (iV (iV (DD x.lo y.lo false) (DD x.lo y.hi false)) (DD x.hi y.lo false)) (DD x.hi y.hi false)) (iR (iR (iR (DD x.lo y.lo true) (DD x.lo y.hi true)) (DD x.hi y.lo true)) (DD x.hi y.hi true)) false))),(10,.cells 41 [(bP false),(.v (.slice none 0 0)),(iP 0),(bP false),(.v (.slice none 0 0)),(iP 0),(bP false)])]⟩
theorem T3(x y:Iv)(p:Nat)(gd gu:FuncId)(DD:Dy->Dy->Bool->Dy)(EE:Dy->Dy->Bool->Int)(hd:∀ a b,(a=x.lo\/a=x.hi)->(b=y.lo\/b=y.hi)->gU gd [gY a,gY b,iP (p:Int)] (.iw [gY (DD a b false),iP (EE a b false)]))
  (hu:∀ a b,(a=x.lo\/a=x.hi)->(b=y.lo\/b=y.hi)->gU gu [gY a,gY b,iP (p:Int)] (.iw [gY (DD a b true),iP (EE a b true)])) (hv:∀ a b up,(DD a b up).ia):gU 91 [(gZ x),(gZ y),(iP p),(.fn gd []),(.fn gu [])] (gZ (mg DD EE x y)):=by
 exact tr true Tryz.call91 Tryz.func91 (chain [.u 5,tB 42 (ag:(decide ((0:Int)<4))=true)]<|.w ((EE x.lo y.lo false)=0)
  (fun k1=>.w ((EE x.lo y.lo true)=0)
   (fun k2=>chain [.j 3 (afA x y p gd gu DD EE)
   (chain [iX (0) (4) ae,iX (0) (2) ae,iX (1) (2) ae,.c (hd _ _ (.inl rfl) (.inl rfl):gU gd ((gY x.lo)::(gY y.lo)::(iP p)::[]) _),iX (0) (2) ae,iX (1) (2) ae,.c (hu _ _ (.inl rfl) (.inl rfl):gU gu ((gY x.lo)::(gY y.lo)::(iP p)::[]) _),tB 66 (aO k1),tB 69 (aO k2),tB 73 (ag:((0:Int)==0)=true),tB 84 (ag:((0:Int)==0)=true)]<|.nil),
    iq (0+1) ae,tB 42 (ag:(decide (((0+1):Int)<4))=true)]<|.w ((EE x.lo y.hi false)=0)
    (fun k3=>.w ((EE x.lo y.hi true)=0)
     (fun k4=>chain [.j 3 (afB x y p gd gu DD EE)
   (chain [iX ((0+1)) (4) ae,iX (0) (2) ae,iX (1) (2) ae,.c (hd _ _ (.inl rfl) (.inr rfl):gU gd ((gY x.lo)::(gY y.hi)::(iP p)::[]) _),iX (0) (2) ae,iX (1) (2) ae,.c (hu _ _ (.inl rfl) (.inr rfl):gU gu ((gY x.lo)::(gY y.hi)::(iP p)::[]) _),tB 66 (aO k3),tB 69 (aO k4),tB 73 (ag:(((0+1):Int)==0)=false),.c (nT _ _ (hv _ _ _) (hv _ _ _):gU 37 [(gY (DD x.lo y.hi false)),(gY (DD x.lo y.lo false))] _)]<|.w ((jo (DD x.lo y.hi false) (DD x.lo y.lo false))<0)
    (fun m1=>chain [tB 79 (aS m1),tB 84 (ag:(((0+1):Int)==0)=false),.c (nT _ _ (hv _ _ _) (hv _ _ _):gU 37 [(gY (DD x.lo y.hi true)),(gY (DD x.lo y.lo true))] _)]<|.w (0<(jo (DD x.lo y.hi true) (DD x.lo y.lo true)))
     (fun m2=>chain [tB 90 (aS m2)]<|.e (chain [.b 12 (.iU (by rw[show iV (DD x.lo y.lo false) (DD x.lo y.hi false)=(DD x.lo y.hi false)from aR m1,show iR (DD x.lo y.lo true) (DD x.lo y.hi true)=(DD x.lo y.hi true)from aR m2]):Bx.le (.cells 41 (iZ (Iv.mk (DD x.lo y.hi false) (DD x.lo y.hi true) false))) (.cells 41 (iZ (Iv.mk (iV (DD x.lo y.lo false) (DD x.lo y.hi false)) (iR (DD x.lo y.lo true) (DD x.lo y.hi true)) false))))]<|.nil))
     (fun m2=>chain [tB 90 (aT m2)]<|.e (chain [.b 12 (.iU (by rw[show iV (DD x.lo y.lo false) (DD x.lo y.hi false)=(DD x.lo y.hi false)from aR m1,show iR (DD x.lo y.lo true) (DD x.lo y.hi true)=(DD x.lo y.lo true)from aQ m2]):Bx.le (.cells 41 (iZ (Iv.mk (DD x.lo y.hi false) (DD x.lo y.lo true) false))) (.cells 41 (iZ (Iv.mk (iV (DD x.lo y.lo false) (DD x.lo y.hi false)) (iR (DD x.lo y.lo true) (DD x.lo y.hi true)) false))))]<|.nil)))
    (fun m1=>chain [tB 79 (aT m1),tB 84 (ag:(((0+1):Int)==0)=false),.c (nT _ _ (hv _ _ _) (hv _ _ _):gU 37 [(gY (DD x.lo y.hi true)),(gY (DD x.lo y.lo true))] _)]<|.w (0<(jo (DD x.lo y.hi true) (DD x.lo y.lo true)))
     (fun m2=>chain [tB 90 (aS m2)]<|.e (chain [.b 12 (.iU (by rw[show iV (DD x.lo y.lo false) (DD x.lo y.hi false)=(DD x.lo y.lo false)from aQ m1,show iR (DD x.lo y.lo true) (DD x.lo y.hi true)=(DD x.lo y.hi true)from aR m2]):Bx.le (.cells 41 (iZ (Iv.mk (DD x.lo y.lo false) (DD x.lo y.hi true) false))) (.cells 41 (iZ (Iv.mk (iV (DD x.lo y.lo false) (DD x.lo y.hi false)) (iR (DD x.lo y.lo true) (DD x.lo y.hi true)) false))))]<|.nil))
     (fun m2=>chain [tB 90 (aT m2)]<|.e (chain [.b 12 (.iU (by rw[show iV (DD x.lo y.lo false) (DD x.lo y.hi false)=(DD x.lo y.lo false)from aQ m1,show iR (DD x.lo y.lo true) (DD x.lo y.hi true)=(DD x.lo y.lo true)from aQ m2]):Bx.le (.cells 41 (iZ (Iv.mk (DD x.lo y.lo false) (DD x.lo y.lo true) false))) (.cells 41 (iZ (Iv.mk (iV (DD x.lo y.lo false) (DD x.lo y.hi false)) (iR (DD x.lo y.lo true) (DD x.lo y.hi true)) false))))]<|.nil)))),
      iq ((0+1)+1) ae,tB 42 (ag:(decide ((((0+1)+1):Int)<4))=true)]<|.w ((EE x.hi y.lo false)=0)
      (fun k5=>.w ((EE x.hi y.lo true)=0)
       (fun k6=>chain [.j 3 (afC x y p gd gu DD EE)
   (chain [iX (((0+1)+1)) (4) ae,iX (0) (2) ae,iX (1) (2) ae,.c (hd _ _ (.inr rfl) (.inl rfl):gU gd ((gY x.hi)::(gY y.lo)::(iP p)::[]) _),iX (0) (2) ae,iX (1) (2) ae,.c (hu _ _ (.inr rfl) (.inl rfl):gU gu ((gY x.hi)::(gY y.lo)::(iP p)::[]) _),tB 66 (aO k5),tB 69 (aO k6),tB 73 (ag:((((0+1)+1):Int)==0)=false),.c (nT _ _ (hv _ _ _) (qg (hv _ _ _) (hv _ _ _)):gU 37 [(gY (DD x.hi y.lo false)),(gY (iV (DD x.lo y.lo false) (DD x.lo y.hi false)))] _)]<|.w ((jo (DD x.hi y.lo false) (iV (DD x.lo y.lo false) (DD x.lo y.hi false)))<0)
    (fun m1=>chain [tB 79 (aS m1),tB 84 (ag:((((0+1)+1):Int)==0)=false),.c (nT _ _ (hv _ _ _) (oY (hv _ _ _) (hv _ _ _)):gU 37 [(gY (DD x.hi y.lo true)),(gY (iR (DD x.lo y.lo true) (DD x.lo y.hi true)))] _)]<|.w (0<(jo (DD x.hi y.lo true) (iR (DD x.lo y.lo true) (DD x.lo y.hi true))))
     (fun m2=>chain [tB 90 (aS m2)]<|.e (chain [.b 12 (.iU (by rw[show iV (iV (DD x.lo y.lo false) (DD x.lo y.hi false)) (DD x.hi y.lo false)=(DD x.hi y.lo false)from aR m1,show iR (iR (DD x.lo y.lo true) (DD x.lo y.hi true)) (DD x.hi y.lo true)=(DD x.hi y.lo true)from aR m2]):Bx.le (.cells 41 (iZ (Iv.mk (DD x.hi y.lo false) (DD x.hi y.lo true) false))) (.cells 41 (iZ (Iv.mk (iV (iV (DD x.lo y.lo false) (DD x.lo y.hi false)) (DD x.hi y.lo false)) (iR (iR (DD x.lo y.lo true) (DD x.lo y.hi true)) (DD x.hi y.lo true)) false))))]<|.nil))
     (fun m2=>chain [tB 90 (aT m2)]<|.e (chain [.b 12 (.iU (by rw[show iV (iV (DD x.lo y.lo false) (DD x.lo y.hi false)) (DD x.hi y.lo false)=(DD x.hi y.lo false)from aR m1,show iR (iR (DD x.lo y.lo true) (DD x.lo y.hi true)) (DD x.hi y.lo true)=(iR (DD x.lo y.lo true) (DD x.lo y.hi true))from aQ m2]):Bx.le (.cells 41 (iZ (Iv.mk (DD x.hi y.lo false) (iR (DD x.lo y.lo true) (DD x.lo y.hi true)) false))) (.cells 41 (iZ (Iv.mk (iV (iV (DD x.lo y.lo false) (DD x.lo y.hi false)) (DD x.hi y.lo false)) (iR (iR (DD x.lo y.lo true) (DD x.lo y.hi true)) (DD x.hi y.lo true)) false))))]<|.nil)))
    (fun m1=>chain [tB 79 (aT m1),tB 84 (ag:((((0+1)+1):Int)==0)=false),.c (nT _ _ (hv _ _ _) (oY (hv _ _ _) (hv _ _ _)):gU 37 [(gY (DD x.hi y.lo true)),(gY (iR (DD x.lo y.lo true) (DD x.lo y.hi true)))] _)]<|.w (0<(jo (DD x.hi y.lo true) (iR (DD x.lo y.lo true) (DD x.lo y.hi true))))
     (fun m2=>chain [tB 90 (aS m2)]<|.e (chain [.b 12 (.iU (by rw[show iV (iV (DD x.lo y.lo false) (DD x.lo y.hi false)) (DD x.hi y.lo false)=(iV (DD x.lo y.lo false) (DD x.lo y.hi false))from aQ m1,show iR (iR (DD x.lo y.lo true) (DD x.lo y.hi true)) (DD x.hi y.lo true)=(DD x.hi y.lo true)from aR m2]):Bx.le (.cells 41 (iZ (Iv.mk (iV (DD x.lo y.lo false) (DD x.lo y.hi false)) (DD x.hi y.lo true) false))) (.cells 41 (iZ (Iv.mk (iV (iV (DD x.lo y.lo false) (DD x.lo y.hi false)) (DD x.hi y.lo false)) (iR (iR (DD x.lo y.lo true) (DD x.lo y.hi true)) (DD x.hi y.lo true)) false))))]<|.nil))
     (fun m2=>chain [tB 90 (aT m2)]<|.e (chain [.b 12 (.iU (by rw[show iV (iV (DD x.lo y.lo false) (DD x.lo y.hi false)) (DD x.hi y.lo false)=(iV (DD x.lo y.lo false) (DD x.lo y.hi false))from aQ m1,show iR (iR (DD x.lo y.lo true) (DD x.lo y.hi true)) (DD x.hi y.lo true)=(iR (DD x.lo y.lo true) (DD x.lo y.hi true))from aQ m2]):Bx.le (.cells 41 (iZ (Iv.mk (iV (DD x.lo y.lo false) (DD x.lo y.hi false)) (iR (DD x.lo y.lo true) (DD x.lo y.hi true)) false))) (.cells 41 (iZ (Iv.mk (iV (iV (DD x.lo y.lo false) (DD x.lo y.hi false)) (DD x.hi y.lo false)) (iR (iR (DD x.lo y.lo true) (DD x.lo y.hi true)) (DD x.hi y.lo true)) false))))]<|.nil)))),
        iq (((0+1)+1)+1) ae,tB 42 (ag:(decide (((((0+1)+1)+1):Int)<4))=true)]<|.w ((EE x.hi y.hi false)=0)
        (fun k7=>.w ((EE x.hi y.hi true)=0)
         (fun k8=>chain [.j 3 (afD x y p gd gu DD EE)
   (chain [iX ((((0+1)+1)+1)) (4) ae,iX (0) (2) ae,iX (1) (2) ae,.c (hd _ _ (.inr rfl) (.inr rfl):gU gd ((gY x.hi)::(gY y.hi)::(iP p)::[]) _),iX (0) (2) ae,iX (1) (2) ae,.c (hu _ _ (.inr rfl) (.inr rfl):gU gu ((gY x.hi)::(gY y.hi)::(iP p)::[]) _),tB 66 (aO k7),tB 69 (aO k8),tB 73 (ag:(((((0+1)+1)+1):Int)==0)=false),.c (nT _ _ (hv _ _ _) (qg (qg (hv _ _ _) (hv _ _ _)) (hv _ _ _)):gU 37 [(gY (DD x.hi y.hi false)),(gY (iV (iV (DD x.lo y.lo false) (DD x.lo y.hi false)) (DD x.hi y.lo false)))] _)]<|.w ((jo (DD x.hi y.hi false) (iV (iV (DD x.lo y.lo false) (DD x.lo y.hi false)) (DD x.hi y.lo false)))<0)
    (fun m1=>chain [tB 79 (aS m1),tB 84 (ag:(((((0+1)+1)+1):Int)==0)=false),.c (nT _ _ (hv _ _ _) (oY (oY (hv _ _ _) (hv _ _ _)) (hv _ _ _)):gU 37 [(gY (DD x.hi y.hi true)),(gY (iR (iR (DD x.lo y.lo true) (DD x.lo y.hi true)) (DD x.hi y.lo true)))] _)]<|.w (0<(jo (DD x.hi y.hi true) (iR (iR (DD x.lo y.lo true) (DD x.lo y.hi true)) (DD x.hi y.lo true))))
     (fun m2=>chain [tB 90 (aS m2)]<|.e (chain [.b 12 (.iU (by rw[show iV (iV (iV (DD x.lo y.lo false) (DD x.lo y.hi false)) (DD x.hi y.lo false)) (DD x.hi y.hi false)=(DD x.hi y.hi false)from aR m1,show iR (iR (iR (DD x.lo y.lo true) (DD x.lo y.hi true)) (DD x.hi y.lo true)) (DD x.hi y.hi true)=(DD x.hi y.hi true)from aR m2]):Bx.le (.cells 41 (iZ (Iv.mk (DD x.hi y.hi false) (DD x.hi y.hi true) false))) (.cells 41 (iZ (Iv.mk (iV (iV (iV (DD x.lo y.lo false) (DD x.lo y.hi false)) (DD x.hi y.lo false)) (DD x.hi y.hi false)) (iR (iR (iR (DD x.lo y.lo true) (DD x.lo y.hi true)) (DD x.hi y.lo true)) (DD x.hi y.hi true)) false))))]<|.nil))
     (fun m2=>chain [tB 90 (aT m2)]<|.e (chain [.b 12 (.iU (by rw[show iV (iV (iV (DD x.lo y.lo false) (DD x.lo y.hi false)) (DD x.hi y.lo false)) (DD x.hi y.hi false)=(DD x.hi y.hi false)from aR m1,show iR (iR (iR (DD x.lo y.lo true) (DD x.lo y.hi true)) (DD x.hi y.lo true)) (DD x.hi y.hi true)=(iR (iR (DD x.lo y.lo true) (DD x.lo y.hi true)) (DD x.hi y.lo true))from aQ m2]):Bx.le (.cells 41 (iZ (Iv.mk (DD x.hi y.hi false) (iR (iR (DD x.lo y.lo true) (DD x.lo y.hi true)) (DD x.hi y.lo true)) false))) (.cells 41 (iZ (Iv.mk (iV (iV (iV (DD x.lo y.lo false) (DD x.lo y.hi false)) (DD x.hi y.lo false)) (DD x.hi y.hi false)) (iR (iR (iR (DD x.lo y.lo true) (DD x.lo y.hi true)) (DD x.hi y.lo true)) (DD x.hi y.hi true)) false))))]<|.nil)))
    (fun m1=>chain [tB 79 (aT m1),tB 84 (ag:(((((0+1)+1)+1):Int)==0)=false),.c (nT _ _ (hv _ _ _) (oY (oY (hv _ _ _) (hv _ _ _)) (hv _ _ _)):gU 37 [(gY (DD x.hi y.hi true)),(gY (iR (iR (DD x.lo y.lo true) (DD x.lo y.hi true)) (DD x.hi y.lo true)))] _)]<|.w (0<(jo (DD x.hi y.hi true) (iR (iR (DD x.lo y.lo true) (DD x.lo y.hi true)) (DD x.hi y.lo true))))
     (fun m2=>chain [tB 90 (aS m2)]<|.e (chain [.b 12 (.iU (by rw[show iV (iV (iV (DD x.lo y.lo false) (DD x.lo y.hi false)) (DD x.hi y.lo false)) (DD x.hi y.hi false)=(iV (iV (DD x.lo y.lo false) (DD x.lo y.hi false)) (DD x.hi y.lo false))from aQ m1,show iR (iR (iR (DD x.lo y.lo true) (DD x.lo y.hi true)) (DD x.hi y.lo true)) (DD x.hi y.hi true)=(DD x.hi y.hi true)from aR m2]):Bx.le (.cells 41 (iZ (Iv.mk (iV (iV (DD x.lo y.lo false) (DD x.lo y.hi false)) (DD x.hi y.lo false)) (DD x.hi y.hi true) false))) (.cells 41 (iZ (Iv.mk (iV (iV (iV (DD x.lo y.lo false) (DD x.lo y.hi false)) (DD x.hi y.lo false)) (DD x.hi y.hi false)) (iR (iR (iR (DD x.lo y.lo true) (DD x.lo y.hi true)) (DD x.hi y.lo true)) (DD x.hi y.hi true)) false))))]<|.nil))
     (fun m2=>chain [tB 90 (aT m2)]<|.e (chain [.b 12 (.iU (by rw[show iV (iV (iV (DD x.lo y.lo false) (DD x.lo y.hi false)) (DD x.hi y.lo false)) (DD x.hi y.hi false)=(iV (iV (DD x.lo y.lo false) (DD x.lo y.hi false)) (DD x.hi y.lo false))from aQ m1,show iR (iR (iR (DD x.lo y.lo true) (DD x.lo y.hi true)) (DD x.hi y.lo true)) (DD x.hi y.hi true)=(iR (iR (DD x.lo y.lo true) (DD x.lo y.hi true)) (DD x.hi y.lo true))from aQ m2]):Bx.le (.cells 41 (iZ (Iv.mk (iV (iV (DD x.lo y.lo false) (DD x.lo y.hi false)) (DD x.hi y.lo false)) (iR (iR (DD x.lo y.lo true) (DD x.lo y.hi true)) (DD x.hi y.lo true)) false))) (.cells 41 (iZ (Iv.mk (iV (iV (iV (DD x.lo y.lo false) (DD x.lo y.hi false)) (DD x.hi y.lo false)) (DD x.hi y.hi false)) (iR (iR (iR (DD x.lo y.lo true) (DD x.lo y.hi true)) (DD x.hi y.lo true)) (DD x.hi y.hi true)) false))))]<|.nil)))),
          iq ((((0+1)+1)+1)+1) ae,tB 42 (ag:(decide ((((((0+1)+1)+1)+1):Int)<4))=false)]<|rQ (gZ (Iv.mk (iV (iV (iV (DD x.lo y.lo false) (DD x.lo y.hi false)) (DD x.hi y.lo false)) (DD x.hi y.hi false)) (iR (iR (iR (DD x.lo y.lo true) (DD x.lo y.hi true)) (DD x.hi y.lo true)) (DD x.hi y.hi true)) false)) (gZ (mg DD EE x y)) (by rw[show mg DD EE x y=⟨(iV (iV (iV (DD x.lo y.lo false) (DD x.lo y.hi false)) (DD x.hi y.lo false)) (DD x.hi y.hi false)),(iR (iR (iR (DD x.lo y.lo true) (DD x.lo y.hi true)) (DD x.hi y.lo true)) (DD x.hi y.hi true)),false⟩from aR ⟨⟨k1,k2⟩,⟨k3,k4⟩,⟨k5,k6⟩,⟨k7,k8⟩⟩];try rfl))
         (fun k8=>chain [iX ((((0+1)+1)+1)) (4) ae,iX (0) (2) ae,iX (1) (2) ae,.c (hd _ _ (.inr rfl) (.inr rfl):gU gd ((gY x.hi)::(gY y.hi)::(iP p)::[]) _),iX (0) (2) ae,iX (1) (2) ae,.c (hu _ _ (.inr rfl) (.inr rfl):gU gu ((gY x.hi)::(gY y.hi)::(iP p)::[]) _),tB 66 (aO k7),tB 69 (aP k8),.c nu]<|rQ (gZ ie) (gZ (mg DD EE x y)) (by rw[show mg DD EE x y=ie from aQ (by rintro⟨⟨q0,r0⟩,⟨q1,r1⟩,⟨q2,r2⟩,⟨q3,r3⟩⟩;exact k8 r3)])))
        (fun k7=>chain [iX ((((0+1)+1)+1)) (4) ae,iX (0) (2) ae,iX (1) (2) ae,.c (hd _ _ (.inr rfl) (.inr rfl):gU gd ((gY x.hi)::(gY y.hi)::(iP p)::[]) _),iX (0) (2) ae,iX (1) (2) ae,.c (hu _ _ (.inr rfl) (.inr rfl):gU gu ((gY x.hi)::(gY y.hi)::(iP p)::[]) _),tB 66 (aP k7),.c nu]<|rQ (gZ ie) (gZ (mg DD EE x y)) (by rw[show mg DD EE x y=ie from aQ (by rintro⟨⟨q0,r0⟩,⟨q1,r1⟩,⟨q2,r2⟩,⟨q3,r3⟩⟩;exact k7 q3)])))
       (fun k6=>chain [iX (((0+1)+1)) (4) ae,iX (0) (2) ae,iX (1) (2) ae,.c (hd _ _ (.inr rfl) (.inl rfl):gU gd ((gY x.hi)::(gY y.lo)::(iP p)::[]) _),iX (0) (2) ae,iX (1) (2) ae,.c (hu _ _ (.inr rfl) (.inl rfl):gU gu ((gY x.hi)::(gY y.lo)::(iP p)::[]) _),tB 66 (aO k5),tB 69 (aP k6),.c nu]<|rQ (gZ ie) (gZ (mg DD EE x y)) (by rw[show mg DD EE x y=ie from aQ (by rintro⟨⟨q0,r0⟩,⟨q1,r1⟩,⟨q2,r2⟩,⟨q3,r3⟩⟩;exact k6 r2)])))
      (fun k5=>chain [iX (((0+1)+1)) (4) ae,iX (0) (2) ae,iX (1) (2) ae,.c (hd _ _ (.inr rfl) (.inl rfl):gU gd ((gY x.hi)::(gY y.lo)::(iP p)::[]) _),iX (0) (2) ae,iX (1) (2) ae,.c (hu _ _ (.inr rfl) (.inl rfl):gU gu ((gY x.hi)::(gY y.lo)::(iP p)::[]) _),tB 66 (aP k5),.c nu]<|rQ (gZ ie) (gZ (mg DD EE x y)) (by rw[show mg DD EE x y=ie from aQ (by rintro⟨⟨q0,r0⟩,⟨q1,r1⟩,⟨q2,r2⟩,⟨q3,r3⟩⟩;exact k5 q2)])))
     (fun k4=>chain [iX ((0+1)) (4) ae,iX (0) (2) ae,iX (1) (2) ae,.c (hd _ _ (.inl rfl) (.inr rfl):gU gd ((gY x.lo)::(gY y.hi)::(iP p)::[]) _),iX (0) (2) ae,iX (1) (2) ae,.c (hu _ _ (.inl rfl) (.inr rfl):gU gu ((gY x.lo)::(gY y.hi)::(iP p)::[]) _),tB 66 (aO k3),tB 69 (aP k4),.c nu]<|rQ (gZ ie) (gZ (mg DD EE x y)) (by rw[show mg DD EE x y=ie from aQ (by rintro⟨⟨q0,r0⟩,⟨q1,r1⟩,⟨q2,r2⟩,⟨q3,r3⟩⟩;exact k4 r1)])))
    (fun k3=>chain [iX ((0+1)) (4) ae,iX (0) (2) ae,iX (1) (2) ae,.c (hd _ _ (.inl rfl) (.inr rfl):gU gd ((gY x.lo)::(gY y.hi)::(iP p)::[]) _),iX (0) (2) ae,iX (1) (2) ae,.c (hu _ _ (.inl rfl) (.inr rfl):gU gu ((gY x.lo)::(gY y.hi)::(iP p)::[]) _),tB 66 (aP k3),.c nu]<|rQ (gZ ie) (gZ (mg DD EE x y)) (by rw[show mg DD EE x y=ie from aQ (by rintro⟨⟨q0,r0⟩,⟨q1,r1⟩,⟨q2,r2⟩,⟨q3,r3⟩⟩;exact k3 q1)])))
   (fun k2=>chain [iX (0) (4) ae,iX (0) (2) ae,iX (1) (2) ae,.c (hd _ _ (.inl rfl) (.inl rfl):gU gd ((gY x.lo)::(gY y.lo)::(iP p)::[]) _),iX (0) (2) ae,iX (1) (2) ae,.c (hu _ _ (.inl rfl) (.inl rfl):gU gu ((gY x.lo)::(gY y.lo)::(iP p)::[]) _),tB 66 (aO k1),tB 69 (aP k2),.c nu]<|rQ (gZ ie) (gZ (mg DD EE x y)) (by rw[show mg DD EE x y=ie from aQ (by rintro⟨⟨q0,r0⟩,⟨q1,r1⟩,⟨q2,r2⟩,⟨q3,r3⟩⟩;exact k2 r0)])))
  (fun k1=>chain [iX (0) (4) ae,iX (0) (2) ae,iX (1) (2) ae,.c (hd _ _ (.inl rfl) (.inl rfl):gU gd ((gY x.lo)::(gY y.lo)::(iP p)::[]) _),iX (0) (2) ae,iX (1) (2) ae,.c (hu _ _ (.inl rfl) (.inl rfl):gU gu ((gY x.lo)::(gY y.lo)::(iP p)::[]) _),tB 66 (aP k1),.c nu]<|rQ (gZ ie) (gZ (mg DD EE x y)) (by rw[show mg DD EE x y=ie from aQ (by rintro⟨⟨q0,r0⟩,⟨q1,r1⟩,⟨q2,r2⟩,⟨q3,r3⟩⟩;exact k1 q0)]))) ah 
open Go.RowKit Fp Pu
theorem Xi{y:Iv}(hy:y.ia)(hs:lN y≠0):y.lo.m≠0/\y.hi.m≠0:=by
 unfold lN at hs;have ha:y.all=false:=by
  cases h:y.all with
  |false=>rfl
  |true=>rw[h]at hs;exact absurd rfl hs
 obtain⟨v1,v2,v3⟩:=oX hy ha;rw[ha]at hs;simp only[bq,a6]at hs;have z:∀ d:Dy,d.m=0->d.iJ=0:=fun d h=>by unfold Dy.iJ;rw[aR h]
 have hc:=Cl y.lo y.hi;rw[hc]at v3;constructor
 .intro h0
  have:=z _ h0;rw[this]at hs v3;split at hs
  .omega
  .split at hs
   .split at v3<;>omega
   .exact hs rfl
 .intro h0
  have:=z _ h0;rw[this]at hs v3;split at hs
  .split at v3<;>omega
  .split at hs
   .omega
   .exact hs rfl
theorem abw(a b:Dy){p:Nat}(up:Bool)(hp:1<=p)(ic:p<=4096):(kt a b p up).ia:=by
 unfold kt;split
 .exact rD
 .exact mn _ _ _ _ _ _ hp ic
theorem ET(x y:Iv)(p:Nat)(hx:x.ia)(hy:y.ia)(il:8<=p)(ic:p<=512):gU 45 [(gZ x),(gZ y),(iP p)] (gZ (iQ x y p)):=by
 by_cases hk:(x.all||y.all)=true
 .exact tr true Tryz.call45 Tryz.func45 (chain [.o 9 (.e (yF _ _):PV.le (.e (.sl true 2 7 fun i_ j_=>(iZ x++iZ y).getD (i_*7+j_) (.v (.bool false)))) (.e (ig [x,y]))),.c (yE _ _ af af:gU 86 [(ig [x,y])] _),tB 10 (by rw[hk];rfl:(!(x.all||y.all))=false),.c nu]<|rQ (gZ ie) (gZ (iQ x y p)) (by rw[show iQ x y p=ie by unfold iQ;rw[aR hk]])) ah 
 .replace hk:(x.all||y.all)=false:=by simpa using hk
  have ky:x.all=false:=by cases h:x.all;rfl;rw[h]at hk;simp at hk
  have Ab:y.all=false:=by cases h:y.all;rfl;rw[h]at hk;simp at hk
  obtain⟨v1,v2,v3⟩:=oX hx ky;obtain⟨v4,v5,v6⟩:=oX hy Ab;exact tr true Tryz.call45 Tryz.func45 (chain [.o 9 (.e (yF _ _):PV.le (.e (.sl true 2 7 fun i_ j_=>(iZ x++iZ y).getD (i_*7+j_) (.v (.bool false)))) (.e (ig [x,y]))),.c (yE _ _ af af:gU 86 [(ig [x,y])] _),tB 10 (by rw[hk];rfl:(!(x.all||y.all))=true),.c (vf _:gU 87 [(iP p)] _),tB 14 (o0.2 ⟨ae,ae⟩:(lp (p:Int))=true),.c (T3 x y p 92 93 (fun a b up=>jj (mq a b) p up) (fun a b up=>jz (mq a b) p up) (fun a b ha hb=>Jj a b p (by rcases ha with rfl|rfl;exact v1;exact v2) (by rcases hb with rfl|rfl;exact v4;exact v5) il ic) (fun a b ha hb=>Jk a b p (by rcases ha with rfl|rfl;exact v1;exact v2) (by rcases hb with rfl|rfl;exact v4;exact v5) il ic) (fun a b up=>mn _ _ _ _ _ _ ae ae))]<|rQ (gZ (mg (fun a b up=>jj (mq a b) p up) (fun a b up=>jz (mq a b) p up) x y)) (gZ (iQ x y p)) (by rw[show iQ x y p=_ by unfold iQ;rw[aQ (by rw[hk];decide)]];rfl)) ah 
theorem T2(x y:Iv)(p:Nat)(hx:x.ia)(hy:y.ia)(il:8<=p)(ic:p<=512):gU 239 [(gZ x),(gZ y),(iP p)] (gZ (jS x y p)):=by
 by_cases hk:(x.all||y.all)=true
 .exact tr true Tryz.call239 Tryz.func239 (chain [.o 9 (.e (yF _ _):PV.le (.e (.sl true 2 7 fun i_ j_=>(iZ x++iZ y).getD (i_*7+j_) (.v (.bool false)))) (.e (ig [x,y]))),.c (yE _ _ af af:gU 86 [(ig [x,y])] _),tB 10 (by rw[hk];rfl:(!(x.all||y.all))=false),.c nu]<|rQ (gZ ie) (gZ (jS x y p)) (by rw[show jS x y p=ie by unfold jS;rw[aR (by rw[hk];rfl)]])) ah 
 .replace hk:(x.all||y.all)=false:=by simpa using hk
  have ky:x.all=false:=by cases h:x.all;rfl;rw[h]at hk;simp at hk
  have Ab:y.all=false:=by cases h:y.all;rfl;rw[h]at hk;simp at hk
  obtain⟨v1,v2,v3⟩:=oX hx ky;obtain⟨v4,v5,v6⟩:=oX hy Ab;by_cases hs:lN y=0
  .exact tr true Tryz.call239 Tryz.func239 (chain [.o 9 (.e (yF _ _):PV.le (.e (.sl true 2 7 fun i_ j_=>(iZ x++iZ y).getD (i_*7+j_) (.v (.bool false)))) (.e (ig [x,y]))),.c (yE _ _ af af:gU 86 [(ig [x,y])] _),tB 10 (by rw[hk];rfl:(!(x.all||y.all))=true),.c (vf _:gU 87 [(iP p)] _),tB 14 (o0.2 ⟨ae,ae⟩:(lp (p:Int))=true),.c (IM y af),tB 20 (by rw[hs];rfl:((lN y)==0)=true),.c nu]<|rQ (gZ ie) (gZ (jS x y p)) (by rw[show jS x y p=ie by unfold jS;rw[aR (by rw[hk,aS hs];rfl)]])) ah 
  .obtain ⟨n1,n2⟩:=Xi hy hs
   exact tr true Tryz.call239 Tryz.func239 (chain [.o 9 (.e (yF _ _):PV.le (.e (.sl true 2 7 fun i_ j_=>(iZ x++iZ y).getD (i_*7+j_) (.v (.bool false)))) (.e (ig [x,y]))),.c (yE _ _ af af:gU 86 [(ig [x,y])] _),tB 10 (by rw[hk];rfl:(!(x.all||y.all))=true),.c (vf _:gU 87 [(iP p)] _),tB 14 (o0.2 ⟨ae,ae⟩:(lp (p:Int))=true),.c (IM y af),tB 20 (by simpa using hs:((lN y)==0)=false),.c (T3 x y p 236 237 (fun a b up=>kt a b p up) (fun a b up=>nd a b p up) (fun a b ha hb=>Wi a b p (by rcases ha with rfl|rfl;exact v1;exact v2) (by rcases hb with rfl|rfl;exact v4;exact v5) (by rcases hb with rfl|rfl;exact n1;exact n2) il ic) (fun a b ha hb=>Wj a b p (by rcases ha with rfl|rfl;exact v1;exact v2) (by rcases hb with rfl|rfl;exact v4;exact v5) (by rcases hb with rfl|rfl;exact n1;exact n2) il ic) (fun a b up=>abw a b up ae ae))]<|rQ (gZ (mg (fun a b up=>kt a b p up) (fun a b up=>nd a b p up) x y)) (gZ (jS x y p)) (by rw[show jS x y p=_ by unfold jS;rw[aQ (by rw[hk,aT hs];decide)]])) ah 
open Go.RowKit Fp Pu
theorem afM(d:RD)(h:d.Zero):gU 137 [(mr d)] (bP true):=by
 obtain⟨h1,h2,h3⟩:=h;exact tr true Tryz.call137 Tryz.func137 (chain [tB 4 (h1:d.neg=false),tB 10 (rX (by rw[h2];rfl):((d.L.length:Int)==0)=true),tB 15 (by rw[h3];rfl:(d.e==0)=true)]<|.nil) ah 
theorem T8(d:RD)(h:¬d.Zero):gU 137 [(mr d)] (bP false):=by
 by_cases h1:d.neg=true
 .exact tr true Tryz.call137 Tryz.func137 (chain [tB 4 (h1:d.neg=true)]<|.nil) ah 
 .replace h1:d.neg=false:=by simpa using h1
  by_cases h2:d.L=[]
  .have h3:¬d.e=0:=fun q=>h ⟨h1,h2,q⟩
   exact tr true Tryz.call137 Tryz.func137 (chain [tB 4 (h1:d.neg=false),tB 10 (rX (by rw[h2];rfl):((d.L.length:Int)==0)=true),tB 15 (by simpa using h3:(d.e==0)=false)]<|.nil) ah 
  .exact tr true Tryz.call137 Tryz.func137 (chain [tB 4 (h1:d.neg=false),tB 10 (nx (fun q=>h2 (amN.1 q)):((d.L.length:Int)==0)=false)]<|.nil) ah 
theorem afL(x:RI)(g:x.jg)(h:x.Ok):gU 84 [uq x] (bP true):=by
 have:=qS x.iv h.valid;rwa[<-IL,h.eq g]at this
theorem afJ(x:RI)(g:x.jg)(h:¬x.Ok):gU 84 [(uq x)] (bP false):=by
 have ga:=g.lo;have gb:=g.hi;by_cases ha:x.all=true
 .by_cases h1:x.lo.Zero
  .have h2:¬x.hi.Zero:=fun q=>h (.inl ⟨ha,h1,q⟩)
   exact tr true Tryz.call84 Tryz.func84 (chain [tB 5 (ha:x.all=true),.c (afM _ h1:gU 137 [(mr x.lo)] _),.c (T8 _ h2:gU 137 [(mr x.hi)] _)]<|.nil) ah 
  .exact tr true Tryz.call84 Tryz.func84 (chain [tB 5 (ha:x.all=true),.c (T8 _ h1:gU 137 [(mr x.lo)] _)]<|.nil) ah 
 .replace ha:x.all=false:=by simpa using ha
  by_cases h1:x.lo.Ok
  .by_cases h2:x.hi.Ok
   .have h3:¬jo x.lo.dy x.hi.dy<=0:=fun q=>h (.inr ⟨ha,h1,h2,q⟩)
    have v1:=h1.valid;have v2:=h2.valid;have e1:uq x=gZ x.iv:=by rw[<-IL,show x.iv.raw=x by show RI.mk x.lo.dy.raw x.hi.dy.raw x.all=x;rw[h1.eq ga,h2.eq gb]]
    rw[e1];exact tr true Tryz.call84 Tryz.func84 (chain [tB 5 (ha:x.iv.all=false),.c (qp _ af:gU 68 [(gY x.iv.lo)] _),.c (qp _ af:gU 68 [(gY x.iv.hi)] _),.c (nT _ _ af af:gU 37 [(gY x.iv.lo),(gY x.iv.hi)] _),tB 30 (aT h3)]<|.nil) ah 
   .exact tr true Tryz.call84 Tryz.func84 (chain [tB 5 (ha:x.all=false),.c (A5 _ af true (by simp[h1]):gU 68 [(mr x.lo)] _),.c (A5 _ af false (by simp[h2]):gU 68 [(mr x.hi)] _)]<|.nil) ah 
  .exact tr true Tryz.call84 Tryz.func84 (chain [tB 5 (ha:x.all=false),.c (A5 _ af false (by simp[h1]):gU 68 [(mr x.lo)] _)]<|.nil) ah 
theorem afK(x:RI)(g:x.jg):gU 84 [uq x] (bP (nm x)):=by
 by_cases h:x.Ok
 .rw [su.2 h];exact afL x g h
 .rw [show nm x=false by simpa using fun q=>h (su.1 q)];exact afJ x g h
open Go.RowKit Fp Pu
abbrev kf(xs:List Iv):Nat->Nat->E:=fun i j=>(iZ (xs.getD i ie)).getD j .any
theorem C3(x:Iv)(j:Nat)(hj:j<7):((iZ x).getD j .any).nr 2=true:=by
 rcases j with _|_|_|_|_|_|_|j
 all_goals first|rfl|omega
theorem afR{T n:Nat}{xs:List Iv}{y:Iv}(hn:n=xs.length):
 Bx.le (.row true T (n+[y].length) 7 fun i j=>if i<n then kf xs i j else(E.mc (ig [y])) (i-n) j) (.row true T (xs++[y]).length 7 (kf (xs++[y]))):=by
 subst hn;refine .row aj fun i j hi hj=>⟨.iU ?_,C3 _ _ hj⟩
 by_cases h:i<xs.length
 .rw [aR h]
  show(iZ (xs.getD i ie)).getD j .any=(iZ ((xs++[y]).getD i ie)).getD j .any;congr 2;simp[aW,eo h]
 .have oM:i=xs.length:=by simp at hi;omega
  subst oM;rw[aQ h,cT];show(iZ y).getD j .any=(iZ ((xs++[y]).getD xs.length ie)).getD j .any;congr 2;simp[aW]
theorem tD{α:Type}(y:α):[y].length=1:=rfl
theorem NM{n i:Nat}{F:Nat->Iv}(h:i<n):((List.range n).map F).getD i ie=F i:=by
 simp[aW,h]
end Go.Proofs.YtdgnpeddgdclhaaGreatDoor
namespace Go.Proofs.YtdgnpeddgdclhaaGreatDoor.Fp
section
variable {a b:Dy} {k:Int}
end
theorem adV{m gm p:Nat}{e ge K:Int}(hp:1<=p)(hg:ib gm<=p)(pX:-16384<=ge)(k1:K<=e)(k2:K<=ge)
 (h:gm*2^(ge-K).toNat<=m*2^(e-K).toNat):gm*2^(ge-K).toNat<=kC m e false p false*2^(e+ja m e p-K).toNat:=by
 have hq:kC m e false p false=m/2^ja m e p:=by unfold kC;simp
 rw[hq];have hm:=bT m (2^ja m e p);have hr:=bg m (aY (n:=ja m e p) (ag:0<2));obtain⟨k,hk⟩:∃ k,k=ja m e p:=⟨_,rfl⟩
 rw[<-hk]at hm hr ⊢;have e1:(e+(k:Int)-K).toNat=k+(e-K).toNat:= ae ;rw[e1,aV];generalize hE:2^(e-K).toNat=E at *
 have Ls:0<E:=by rw[<-hE];exact aY ag 
 have hmE:m*E<(m/2^k+1)*(2^k*E):=by
  rw[<-bc];refine cC ?_ Ls;rw[bK,bI,a7];omega
 by_cases hc:e+k<=ge
 .
  have e2:(ge-K).toNat=(ge-(e+k)).toNat+(k+(e-K).toNat):= ae ;rw[e2,aV,aV 2 k,hE]at h ⊢;rw[<-bc]at h ⊢;generalize gm*2^(ge-(e+k)).toNat=g at *
  have:g<m/2^k+1:=by
   apply bE;intro h';have:=bC (2^k*E) (show m/2^k+1<=g by omega);omega
  exact bC _ ae 
 .by_cases q7:k=0
  .subst q7
   rw[bN,dC,bI];exact h
  .
   have hb:(ib m:Int)-p=k:=by unfold ja at hk;omega
   have Ez:m≠0:=by intro h0;rw[h0]at hb;simp[ib]at hb;omega
   have h1:=rB Ez;have h2:2^(ib m-1-k)<=m/2^k:=by
    rw[cL (aY ag),<-aV];exact aX (bh ag (by have:=mS Ez;omega)) h1
   have h3:gm<2^p:=kO.1 hg;refine aX (bC _ (cW h3)) (aX ?_ (bC _ h2));rw[<-hE,<-aV,<-aV,<-aV];exact bh ag ae 
theorem R1{m gm p:Nat}{e ge K:Int}(hp:1<=p)(hg:ib gm<=p)(pX:-16384<=ge)(k1:K<=e)(k2:K<=ge)
 (h:m*2^(e-K).toNat<=gm*2^(ge-K).toNat):kC m e false p true*2^(e+ja m e p-K).toNat<=gm*2^(ge-K).toNat:=by
 have Tc:kC m e false p false=m/2^ja m e p:=by unfold kC;simp
 have CS:kC m e false p true=m/2^ja m e p+if m%2^ja m e p≠0 then 1 else 0:=by unfold kC;simp
 have hm:=bT m (2^ja m e p);obtain⟨k,hk⟩:∃ k,k=ja m e p:=⟨_,rfl⟩
 rw[CS];rw[<-hk]at hm ⊢;have e1:(e+(k:Int)-K).toNat=k+(e-K).toNat:= ae ;rw[e1,aV];generalize hE:2^(e-K).toNat=E at *
 have Ls:0<E:=by rw[<-hE];exact aY ag 
 by_cases hr:m%2^k=0
 .rw [aQ ae,bt,<-bc]
  refine aX (fI ?_) h;congr 1;rw[a7];omega
 .rw [aR hr]
  have q7:k≠0:=by intro h0;rw[h0,bN,cH]at hr;exact hr rfl
  have iD:m/2^k*(2^k*E)<gm*2^(ge-K).toNat:=by
   refine bD ?_ h;rw[<-bc];refine cC ?_ Ls;rw[a7];omega
  by_cases hc:e+k<=ge
  .have e2:(ge-K).toNat=(ge-(e+k)).toNat+(k+(e-K).toNat):= ae 
   have e3:gm*2^(ge-K).toNat=gm*2^(ge-(e+k)).toNat*(2^k*E):=by rw[e2,aV,aV 2 k,hE,bc]
   rw[e3]at iD ⊢;generalize gm*2^(ge-(e+k)).toNat=g at *
   have:m/2^k<g:=am2 iD;exact bC _ this
  .
   exfalso;have hb:(ib m:Int)-p=k:=by unfold ja at hk;omega
   have Ez:m≠0:=by intro h0;rw[h0]at hr;simp at hr
   have h1:=rB Ez;have pn:=mS Ez;have h3:gm<2^p:=kO.1 hg;have h4:gm*2^(ge-K).toNat<=2^(ib m-1)*E:=by
    refine aX (bC _ (cW h3)) ?_;rw[<-hE,<-aV,<-aV];exact bh ag ae 
   have h5:2^(ib m-1-k)<=m/2^k:=by
    rw[cL (aY ag),<-aV];exact aX (bh ag ae) h1
   have h6:2^(ib m-1)*E<=m/2^k*(2^k*E):=by
    rw[<-bc];refine bC _ ?_;have:=bC (2^k) h5;rw[<-aV]at this;exact aX (bh ag ae) this
   omega
def P2(k:Int):Rat:=(2:Rat)^k
theorem mZ(k:Int):0<P2 k:=Rat.zpow_pos ag 
theorem qn(a b:Int):P2 (a+b)=P2 a*P2 b:=Rat.zpow_add ag a b
theorem uG(n:Nat):P2 (n:Int)=((2^n:Nat):Rat):=by unfold P2;rw[Rat.zpow_natCast];simp
theorem J2:P2 0=1:=by have:=uG 0;simpa using this
theorem DN{e k:Int}(h:k<=e):P2 e=((2^(e-k).toNat:Nat):Rat)*P2 k:=by
 rw[<-uG,<-qn];congr 1;omega
theorem vi{x y:Rat}(k:Int):x*P2 k<=y*P2 k↔x<=y:=
 ⟨fun h=>ew h (mZ k),fun h=>b8 h (bB (mZ k))⟩
theorem sn{m n:Nat}{e f K:Int}(h1:K<=e)(h2:K<=f):(m:Rat)*P2 e<=(n:Rat)*P2 f↔m*2^(e-K).toNat<=n*2^(f-K).toNat:=by
 rw[DN h1,DN h2,<-ef,<-ef,vi,<-cO,<-cO,cX]
def Dy.q(d:Dy):Rat:=((d.num d.e:Int):Rat)*P2 d.e
theorem xA{d:Dy}{k:Int}(h:nJ d k):d.q=((d.num k:Int):Rat)*P2 k:=by
 unfold Dy.q;rcases h with h|h
 .rw [vk h,vk h];simp
 .rw [I4 h (bX _),DN h,<-ef,Rat.intCast_mul,dK]
theorem pU(a b:Dy):jo a b<=0↔a.q<=b.q:=by
 obtain⟨k,ka,kb⟩:∃ k:Int,k<=a.e/\k<=b.e:=⟨min a.e b.e,ae,ae⟩
 rw[oj (.inr ka) (.inr kb),xA (.inr ka),xA (.inr kb),vi,fL]
theorem NB(a b:Dy):(iI a b).q=a.q+b.q:=by
 obtain⟨k,ka,kb⟩:∃ k:Int,k<=a.e/\k<=b.e:=⟨min a.e b.e,ae,ae⟩
 rw[xA (Gp (.inr ka) (.inr kb)),xA (.inr ka),xA (.inr kb),JF (.inr ka) (.inr kb),Rat.intCast_add,Rat.add_mul]
theorem oF(a:Dy):(iF a).q = -a.q:=by
 rw[xA (DP (.inr (bX a.e))),Fm,fM,fN];rfl
theorem qL(s:Bool)(m:Nat)(e:Int):(canon s m e).q=if s then -((m:Rat)*P2 e)else(m:Rat)*P2 e:=by
 rw[xA (zo (bX e)),BK (bX e)];have:(e-e).toNat=0:= ae ;rw[this];cases s<;>simp[fM,fN,dK]
theorem qv(a:Dy):a.q=if a.neg then -((a.m:Rat)*P2 a.e)else(a.m:Rat)*P2 a.e:=by
 unfold Dy.q Dy.num Dy.jQ;have:(a.e-a.e).toNat=0:= ae ;rw[this];cases a.neg<;>simp[fM,fN,dK]
theorem Dj(a b:Dy):(kJ a b).q=a.q*b.q:=by
 unfold kJ;rw[qL,qv a,qv b,qn,cO];cases a.neg<;>cases b.neg<;>simp<;>grind
theorem rz:jA.q=0:=by rw[qv];simp[jA]
theorem Je{a b:Dy}(ha:a.lI)(hb:b.lI)(h:a.q=b.q):a=b:=by
 obtain⟨k,ka,kb⟩:∃ k:Int,k<=a.e/\k<=b.e:=⟨min a.e b.e,ae,ae⟩
 refine KT ha hb (.inr ka) (.inr kb) ?_;rw[xA (.inr ka),xA (.inr kb)]at h;have h1:=(vi (x:=((a.num k:Int):Rat)) (y:=((b.num k:Int):Rat)) k).1 (by rw[h];exact b9);have h2:=(vi (x:=((b.num k:Int):Rat)) (y:=((a.num k:Int):Rat)) k).1 (by rw[h];exact b9);rw[fL]at h1 h2;omega
theorem xB(n:Int):(je n).q=(n:Rat):=by
 unfold je;rw[xA (k:=0) (J7 (bX 0)),Nf (bX 0),J2];simp
theorem yR(d:Dy):0<=(k0 d).q/\d.q<=(k0 d).q /\ -d.q<=(k0 d).q/\((k0 d).q=d.q\/(k0 d).q = -d.q):=by
 have h:(k0 d).q=(d.m:Rat)*P2 d.e:=by rw[qv];rfl
 have h0:0<=(d.m:Rat)*P2 d.e:=bM (cF) (bB (mZ _));rw[h,qv d];cases d.neg<;>simp<;>grind
theorem re(d:Dy):(0<d.iJ↔0<d.q)/\(d.iJ<0↔d.q<0):=by
 have h:=mZ d.e;have hm:d.m≠0->0<(d.m:Rat)*P2 d.e:=fun h0=>dL (fl.2 ae) h
 rw[qv];unfold Dy.iJ;by_cases h0:d.m=0
 .simp [h0]
 .have:=hm h0
  rw[aQ h0];cases d.neg<;>simp<;>grind
theorem FB(a b:Dy):a.q<=(iR a b).q/\b.q<=(iR a b).q/\((iR a b).q=a.q\/(iR a b).q=b.q):=
 ⟨(pU _ _).1 (Da a b),(pU _ _).1 (UH a b),by unfold iR;split;exact .inr rfl;exact .inl rfl⟩
theorem BO(a b:Dy):(iV a b).q<=a.q/\(iV a b).q<=b.q/\((iV a b).q=a.q\/(iV a b).q=b.q):=
 ⟨(pU _ _).1 (E5 a b),(pU _ _).1 (UK a b),by unfold iV;split;exact .inr rfl;exact .inl rfl⟩
def GM(p:Nat)(g:Rat):Prop:=∃ (m:Nat) (e:Int),ib m<=p /\ -16384<=e/\(ib m:Int)+e<=16384/\g=(m:Rat)*P2 e
def G(p:Nat)(g:Rat):Prop:=GM p g\/GM p (-g)
theorem GM.Fl{p:Nat}{g:Rat}(h:GM p g):0<=g:=by
 obtain⟨m,e,_,_,_,rfl⟩:=h;exact bM (cF) (bB (mZ _))
theorem wP(p:Nat):GM p 0:=⟨0,0,by simp[qX],ae,by simp[qX],aj⟩
theorem G.neg{p:Nat}{g:Rat}(h:G p g):G p (-g):=by
 rcases h with h|h
 .exact .inr (by rw[fm];exact h)
 .exact .inl h
theorem G.pos{p:Nat}{g:Rat}(h:G p g)(h0:0<=g):GM p g:=by
 rcases h with h|h
 .exact h
 .have:=h.Fl
  have:g=0:= aq ;rw[this];exact wP p
theorem P0(k:Nat):ib (2^k)=k+1:=uJ (aU _) (eu ag ae)
theorem uK:ib 1=1:=P0 0
section
variable {m p:Nat} {e:Int}
theorem X5(hp:1<=p)(ic:p<=4096)(ho:lO m e false p false=true):
 GM p (((2^p-1:Nat):Rat)*P2 (16384-p))/\((2^p-1:Nat):Rat)*P2 (16384-p)<=(m:Rat)*P2 e/\∀ g,GM p g->g<=((2^p-1:Nat):Rat)*P2 (16384-p):=by
 have wq:2<=2^p:=by
  have:=bh (n:=2) ag hp;omega
 have hb:ib (2^p-1)=p:=by
  obtain⟨j,rfl⟩:∃ j,p=j+1:=⟨p-1,ae⟩
  have h2:2^(j+1)=2^j*2:=aZ _ _;have h3:=aY (n:=j) (ag:0<2);exact uJ ae ae 
 refine⟨⟨_,_,fI hb,ae,ae,rfl⟩,?_,?_⟩
 .obtain ⟨c1,c2⟩:=GR m e p
  unfold lO at ho;simp only[bA,bZ]at ho;obtain⟨o1,o2⟩:=ho;have hq:=rB o1;have pn:=mS o1;obtain⟨K,k1,k2⟩:∃ K:Int,K<=e/\K<=16384-p:=⟨min e (16384-p),ae,ae⟩
  rw[sn k2 k1];have h1:2^(ib (kC m e false p false)-1)*2^ja m e p<=m:=aX (bC _ hq) c1;have h2:=bC (2^(e-K).toNat) h1;rw[<-aV,<-aV]at h2;refine aX (bC _ (dj _ _)) (aX ?_ h2);rw[<-aV];exact bh ag ae 
 .rintro g ⟨gm,ge,b1,b2,b3,rfl⟩
  by_cases hc:ge<=16384-p
  .have:gm<2^p:=kO.1 b1
   rw[sn (K:=ge) (bX _) hc];have e0:(ge-ge).toNat=0:= ae ;rw[e0,bN,bO];exact aX (show gm<=2^p-1 by omega) (fS _ (aY ag))
  .rw [sn (K:=16384-p) ae (bX _)]
   have e0:((16384:Int)-p-(16384-p)).toNat=0:= ae ;rw[e0,bN,bO];have h1:gm<2^(16384-ge).toNat:=by
    by_cases h0:gm=0
    .rw [h0];exact aY ag 
    .exact kO.1 ae 
   have h2:=cC h1 (aY (n:=(ge-(16384-p)).toNat) (ag:0<2));by_cases hg:ge<=16384
   .rw [<-aV,show(16384-ge).toNat+(ge-(16384-(p:Int))).toNat=p by omega]at h2
    omega
   .have:gm=0:=by
     rw[show(16384-ge).toNat=0 by omega]at h1;simpa using h1
    rw[this,ch];omega
theorem X4(hp:1<=p)(ho:¬lO m e false p false=true):
 GM p (((kC m e false p false:Nat):Rat)*P2 (e+ja m e p))/\((kC m e false p false:Nat):Rat)*P2 (e+ja m e p)<=(m:Rat)*P2 e /\
 ∀ g,GM p g->g<=(m:Rat)*P2 e->g<=((kC m e false p false:Nat):Rat)*P2 (e+ja m e p):=by
 obtain⟨c1,c2⟩:=GR m e p;have hk:-16384<=e+(ja m e p:Int):=by unfold ja;omega
 refine⟨?_,?_,?_⟩
 .by_cases h0:kC m e false p false=0
  .rw [h0];simpa using wP p
  .have hq:kC m e false p false<2^p:=by
    have:=QR m e p;unfold kC;simpa using this
   unfold lO at ho;simp only[cV,h0,er,fH,dZ,bZ]at ho;exact⟨_,_,kO.2 hq,hk,ae,rfl⟩
 .rw [sn (K:=e) ae (bX _)]
  rw[show(e-e).toNat=0 by omega,show(e+(ja m e p:Int)-e).toNat=ja m e p by omega,bN,bO];exact c1
 .rintro g ⟨gm,ge,b1,b2,b3,rfl⟩ h
  obtain⟨K,k1,k2⟩:∃ K:Int,K<=e/\K<=ge:=⟨min e ge,ae,ae⟩
  rw[sn k2 k1]at h;rw[sn (K:=K) k2 ae];exact adV hp b1 b2 k1 k2 h
theorem Ql(hp:1<=p)(ho:lO m e false p true=true)(g:Rat)(hg:GM p g):¬(m:Rat)*P2 e<=g:=by
 obtain⟨gm,ge,b1,b2,b3,rfl⟩:=hg;intro h;obtain⟨K,k1,k2⟩:∃ K:Int,K<=e/\K<=ge:=⟨min e ge,ae,ae⟩
 rw[sn k1 k2]at h;have h:=R1 hp b1 b2 k1 k2 h;unfold lO at ho;simp only[bA,bZ]at ho;obtain⟨o1,o2⟩:=ho;have hq:=rB o1;have pn:=mS o1;have h3:gm<2^ib gm:=oN gm;have h4:=cC h3 (aY (n:=(ge-K).toNat) (ag:0<2));have h5:=bC (2^(e+(ja m e p:Int)-K).toNat) hq;rw[<-aV]at h4 h5;have h6:2^(ib gm+(ge-K).toNat)<=2^(ib (kC m e false p true)-1+(e+(ja m e p:Int)-K).toNat):=bh ag ae;omega
theorem Qk(hp:1<=p)(ho:¬lO m e false p true=true):
 GM p (((kC m e false p true:Nat):Rat)*P2 (e+ja m e p))/\(m:Rat)*P2 e<=((kC m e false p true:Nat):Rat)*P2 (e+ja m e p) /\
 ∀ g,GM p g->(m:Rat)*P2 e<=g->((kC m e false p true:Nat):Rat)*P2 (e+ja m e p)<=g:=by
 obtain⟨c1,c2⟩:=GR m e p;have hk:-16384<=e+(ja m e p:Int):=by unfold ja;omega
 refine⟨?_,?_,?_⟩
 .by_cases h0:kC m e false p true=0
  .rw [h0];simpa using wP p
  .unfold lO at ho
   simp only[cV,h0,er,fH,dZ,bZ]at ho;rcases Nat.lt_or_eq_of_le (QE m e false p true)with hq|hq
   .exact ⟨_,_,kO.2 hq,hk,ae,rfl⟩
   .rw [hq]at ho ⊢
    rw[P0]at ho;refine⟨1,p+(e+ja m e p),by rw[uK];exact hp,ae,by rw[uK];omega,?_⟩;rw[qn (p:Int),uG p,show((1:Nat):Rat)=1 from rfl,ey]
 .rw [sn (K:=e) (bX _) ae]
  rw[show(e-e).toNat=0 by omega,show(e+(ja m e p:Int)-e).toNat=ja m e p by omega,bN,bO];exact c2
 .rintro g ⟨gm,ge,b1,b2,b3,rfl⟩ h
  obtain⟨K,k1,k2⟩:∃ K:Int,K<=e/\K<=ge:=⟨min e ge,ae,ae⟩
  rw[sn k1 k2]at h;rw[sn (K:=K) ae k2];exact R1 hp b1 b2 k1 k2 h
end
def Dn(p:Nat)(v:Rat)(D:Dy)(E:Int):Prop:=(E=0->G p D.q/\D.q<=v)/\∀ g,G p g->g<=v->E=0/\g<=D.q
def Up(p:Nat)(v:Rat)(D:Dy)(E:Int):Prop:=(E=0->G p D.q/\v<=D.q)/\∀ g,G p g->v<=g->E=0/\D.q<=g
theorem Dn.of{p:Nat}{v w:Rat}{D:Dy}{E:Int}(h:Dn p v D E)(k:∀ g,G p g->(g<=v↔g<=w)):Dn p w D E:=
 ⟨fun e=>⟨(h.1 e).1,(k _ (h.1 e).1).1 (h.1 e).2⟩,fun g hg hw=>h.2 g hg ((k g hg).2 hw)⟩
theorem Up.of{p:Nat}{v w:Rat}{D:Dy}{E:Int}(h:Up p v D E)(k:∀ g,G p g->(v<=g↔w<=g)):Up p w D E:=
 ⟨fun e=>⟨(h.1 e).1,(k _ (h.1 e).1).1 (h.1 e).2⟩,fun g hg hw=>h.2 g hg ((k g hg).2 hw)⟩
theorem D2(neg:Bool)(m:Nat)(e:Int){p:Nat}(hp:1<=p)(ic:p<=4096):Dn p (canon neg m e).q (jP neg m e false p false) (jG neg m e false p false):=by
 have hv:0<=(m:Rat)*P2 e:=bM (cF) (bB (mZ _));rw[qL];cases neg
 .
  have hE:jG false m e false p false=0:=by unfold jG;simp
  rw[hE];unfold jP;simp only[bne_self_eq_false,bq,a6];by_cases ho:lO m e false p false=true
  .obtain ⟨t1,t2,t3⟩:=X5 hp ic ho
   rw[aR ho];(first|unfold Dn|unfold Up);rw[qL];simp only[bq,a6];refine⟨fun _=>⟨.inl t1,t2⟩,fun g hg hle=>⟨trivial,?_⟩⟩;by_cases h0:0<=g
   .exact t3 g (hg.pos h0)
   .have:=t1.Fl;grind
  .obtain ⟨t1,t2,t3⟩:=X4 hp ho
   rw[aQ ho];(first|unfold Dn|unfold Up);rw[qL];simp only[bq,a6];refine⟨fun _=>⟨.inl t1,t2⟩,fun g hg hle=>⟨trivial,?_⟩⟩;by_cases h0:0<=g
   .exact t3 g (hg.pos h0) hle
   .have:=t1.Fl;grind
 .unfold jP jG
  simp only[Bool.bne_false,Bool.and_true,bk];by_cases ho:lO m e false p true=true
  .rw [aR ho,aR ho]
   refine⟨fun h=>by simp at h,fun g hg hle=>?_⟩;exact absurd (show(m:Rat)*P2 e <= -g by grind) (Ql hp ho _ (hg.neg.pos aq))
  .obtain ⟨t1,t2,t3⟩:=Qk hp ho
   rw[aQ ho,aQ ho];(first|unfold Dn|unfold Up);rw[qL];simp only[bk];refine⟨fun _=>⟨.inr (by rw[fm];exact t1),aq⟩,fun g hg hle=>⟨trivial,?_⟩⟩;have:=t3 (-g) (hg.neg.pos aq) aq 
   grind
theorem D3(neg:Bool)(m:Nat)(e:Int){p:Nat}(hp:1<=p)(ic:p<=4096):Up p (canon neg m e).q (jP neg m e false p true) (jG neg m e false p true):=by
 have hv:0<=(m:Rat)*P2 e:=bM (cF) (bB (mZ _));rw[qL];cases neg
 .unfold jP jG
  simp only[Bool.bne_true,dH,Bool.and_true,bk,bq,a6];by_cases ho:lO m e false p true=true
  .rw [aR ho,aR ho]
   refine⟨fun h=>by simp at h,fun g hg hle=>?_⟩;exact absurd hle (Ql hp ho _ (hg.pos aq))
  .obtain ⟨t1,t2,t3⟩:=Qk hp ho
   rw[aQ ho,aQ ho];(first|unfold Dn|unfold Up);rw[qL];simp only[bq,a6];exact⟨fun _=>⟨.inl t1,t2⟩,fun g hg hle=>⟨trivial,t3 g (hg.pos aq) hle⟩⟩
 .have hE:jG true m e false p true=0:=by unfold jG;simp
  rw[hE];unfold jP;simp only[bne_self_eq_false,bq,a6,bk];by_cases ho:lO m e false p false=true
  .obtain ⟨t1,t2,t3⟩:=X5 hp ic ho
   rw[aR ho];(first|unfold Dn|unfold Up);rw[qL];simp only[bk];refine⟨fun _=>⟨.inr (by rw[fm];exact t1),aq⟩,fun g hg hle=>⟨trivial,?_⟩⟩;by_cases h0:0 <= -g
   .have:=t3 (-g) (hg.neg.pos h0);grind
   .have:=t1.Fl;grind
  .obtain ⟨t1,t2,t3⟩:=X4 hp ho
   rw[aQ ho];(first|unfold Dn|unfold Up);rw[qL];simp only[bk];refine⟨fun _=>⟨.inr (by rw[fm];exact t1),aq⟩,fun g hg hle=>⟨trivial,?_⟩⟩;by_cases h0:0 <= -g
   .have:=t3 (-g) (hg.neg.pos h0) aq;grind
   .have:=t1.Fl;grind
theorem wI{d:Dy}(hd:d.lI){p:Nat}(hp:1<=p)(ic:p<=4096):Dn p d.q (jj d p false) (jz d p false):=by
 have:=D2 d.neg d.m d.e hp ic;rwa[hd.Ch]at this
theorem wJ{d:Dy}(hd:d.lI){p:Nat}(hp:1<=p)(ic:p<=4096):Up p d.q (jj d p true) (jz d p true):=by
 have:=D3 d.neg d.m d.e hp ic;rwa[hd.Ch]at this
theorem Lj{N p:Nat}{e:Int}(hb:p<ib N){g:Rat}(hg:GM p g):g<=(N:Rat)*P2 e\/((N+1:Nat):Rat)*P2 e<=g:=by
 obtain⟨gm,ge,b1,b2,b3,rfl⟩:=hg;by_cases hc:e<=ge
 .rw [sn (K:=e) hc (bX _),sn (K:=e) (bX _) hc,show(e-e).toNat=0 by omega]
  omega
 .left
  rw[sn (K:=ge) (bX _) ae,show(ge-ge).toNat=0 by omega,bN,bO];have h1:gm<2^p:=kO.1 b1;have h2:2^p<=N:=sk.1 hb;exact aX (cW (bD h1 h2)) (fS _ (aY ag))
theorem PR{N p:Nat}{e:Int}(hb:p<ib N){x y:Rat}(x1:(N:Rat)*P2 e<x)(x2:x<((N+1:Nat):Rat)*P2 e)(y1:(N:Rat)*P2 e<y)(y2:y<((N+1:Nat):Rat)*P2 e){g:Rat}(hg:G p g):
 (g<=x↔g<=y)/\(x<=g↔y<=g)/\(g <= -x↔g <= -y)/\(-x<=g ↔ -y<=g):=by
 have hv:0<=(N:Rat)*P2 e:=bM (cF) (bB (mZ _));have hG:∀ g,G p g->g<=(N:Rat)*P2 e\/((N+1:Nat):Rat)*P2 e<=g:=by
  intro g hg;by_cases h0:0<=g
  .exact Lj hb (hg.pos h0)
  .left;grind
 have h1:=hG g hg;have h2:=hG (-g) hg.neg;generalize (N:Rat)*P2 e=A at *
 generalize ((N+1:Nat):Rat)*P2 e=B at *
 refine⟨?_,?_,?_,?_⟩<;>constructor<;>intro h<;>grind
theorem Co{N p:Nat}(E:Int)(hb:p<ib N)(neg up:Bool):jP neg N E true p up=jP neg (2*N+1) (E-1) false p up/\jG neg N E true p up=jG neg (2*N+1) (E-1) false p up:=by
 have h1:(2*N+1)/2^1=N:= ae ;have h:=GQ (N:=2*N+1) (E:=E-1) (more:=false) (d:=1) (p:=p) neg up (by rw[h1];exact hb);have h2:decide ((2*N+1)%2^1≠0)=true:= aj ;rw[h1,h2,show E-1+((1:Nat):Int)=E by omega]at h;exact h
theorem KL{a b:Dy}(b0:b.m≠0){p:Nat}(hp:1<=p)(ic:p<=4096):Dn p (a.q/b.q) (kt a b p false) (nd a b p false)/\Up p (a.q/b.q) (kt a b p true) (nd a b p true):=by
 by_cases a0:a.m=0
 .have hq:a.q=0:=by rw[qv,a0];simp
  have h0:(0:Rat)/b.q=0:=by rw[cA,gE]
  unfold kt nd;rw[hq,h0,aR a0,aR a0,aR a0,aR a0];have hz:G p 0:=.inl (wP p);exact⟨⟨fun _=>⟨by rw[rz];exact hz,by rw[rz];exact b9⟩,fun g _ h=>⟨rfl,by rw[rz];exact h⟩⟩,⟨fun _=>⟨by rw[rz];exact hz,by rw[rz];exact b9⟩,fun g _ h=>⟨rfl,by rw[rz];exact h⟩⟩⟩
 .have hb:=KM a0 b0 p 2 ag 
  unfold kt nd;rw[aQ a0,aQ a0,aQ a0,aQ a0];generalize hk:kn a b p 2=k at *
  generalize hs:(a.neg != b.neg)=s;generalize hE:a.e-b.e-(k:Int)=E0;have hB:(0:Rat)<(b.m:Rat):=fl.2 ae;have Sb:=mZ b.e;have hP:=mZ E0;obtain⟨w,hw⟩:∃ w:Rat,w=(a.m:Rat)*P2 a.e/((b.m:Rat)*P2 b.e):=⟨_,rfl⟩
  have Tv:w*((b.m:Rat)*P2 b.e)=(a.m:Rat)*P2 a.e:=by
   have:(b.m:Rat)*P2 b.e≠0:=by have:=dL hB Sb;grind
   rw[hw];exact dm this
  have kY:a.q/b.q=if s then -w else w:=by
   have hbq:b.q≠0:=by
    have:=dL hB Sb;rw[qv b];cases b.neg<;>simp<;>grind
   have hq:(if s then -w else w)*b.q=a.q:=by
    rw[qv a,qv b,<-hs,<-Tv];cases a.neg<;>cases b.neg<;>simp<;>grind
   rw[<-hq,amR hbq]
  have LR:=bT (a.m*2^k) b.m;have hr:=bg (a.m*2^k) (show 0<b.m by omega);generalize hN:a.m*2^k/b.m=N at *
  generalize hR:a.m*2^k%b.m=R at *
  have aen:(b.m:Rat)*(N:Rat)+(R:Rat)=(a.m:Rat)*((2^k:Nat):Rat):=by rw[<-cO,<-cO,<-dM,LR]
  have hae:P2 a.e=((2^k:Nat):Rat)*P2 b.e*P2 E0:=by rw[<-uG,<-qn,<-qn];congr 1;omega
  have IC:w*(b.m:Rat)=((b.m:Rat)*(N:Rat)+(R:Rat))*P2 E0:=by
   have:w*(b.m:Rat)*P2 b.e=((b.m:Rat)*(N:Rat)+(R:Rat))*P2 E0*P2 b.e:=by
    rw[aen,ef,Tv,hae];grind
   have kI:P2 b.e≠0:= aq ;have h2:=congrArg (· / P2 b.e) this;simp only[amR kI]at h2;exact h2
  by_cases h0:R=0
  .have IB:w=(N:Rat)*P2 E0:=by
    rw[h0]at IC;have kI:(b.m:Rat)≠0:= aq ;have h2:w*(b.m:Rat)=((N:Rat)*P2 E0)*(b.m:Rat):=by rw[IC];simp;grind
    have h3:=congrArg (· / (b.m:Rat)) h2;simp only[amR kI]at h3;exact h3
   have hc:a.q/b.q=(canon s N E0).q:=by rw[kY,qL,IB]
   rw[hc,aT (by simpa using h0)];exact⟨D2 _ _ _ hp ic,D3 _ _ _ hp ic⟩
  .have uY:(0:Rat)<(R:Rat):=fl.2 ae 
   have hRb:(R:Rat)<(b.m:Rat):=Rat.natCast_lt_natCast.2 hr;have w1:(N:Rat)*P2 E0<w:=by
    apply am3 (c:=(b.m:Rat)) _ (bB hB);rw[IC];have:=dL uY hP
    grind
   have w2:w<((N+1:Nat):Rat)*P2 E0:=by
    apply am3 (c:=(b.m:Rat)) _ (bB hB);rw[IC,dM];have:=dL (show(0:Rat)<(b.m:Rat)-(R:Rat)by grind) hP;simp
    grind
   have hh:P2 E0=2*P2 (E0-1):=by
    rw[DN (show E0-1<=E0 by omega),show(E0-(E0-1)).toNat=1 by omega];simp
   have v1:(N:Rat)*P2 E0<((2*N+1:Nat):Rat)*P2 (E0-1):=by
    have:=mZ (E0-1);rw[hh,dM,cO];simp;grind
   have v2:((2*N+1:Nat):Rat)*P2 (E0-1)<((N+1:Nat):Rat)*P2 E0:=by
    have:=mZ (E0-1);rw[hh,dM,cO,dM];simp;grind
   rw[aS (by simpa using h0),(Co E0 hb s false).1,(Co E0 hb s false).2,(Co E0 hb s true).1,(Co E0 hb s true).2,kY];have A:=D2 s (2*N+1) (E0-1) hp ic;have B:=D3 s (2*N+1) (E0-1) hp ic;rw[qL]at A B;refine⟨A.of fun g hg=>?_,B.of fun g hg=>?_⟩
   .obtain ⟨k1,k2,k3,k4⟩:=PR hb v1 v2 w1 w2 hg
    cases s
    .exact k1
    .exact k3
   .obtain ⟨k1,k2,k3,k4⟩:=PR hb v1 v2 w1 w2 hg
    cases s
    .exact k2
    .exact k4
def Iv.jY(x:Iv)(r:Rat):Prop:=x.all=true\/(x.lo.q<=r/\r<=x.hi.q)
def Sub(x y:Iv):Prop:=y.all=true\/(x.all=false/\y.lo.q<=x.lo.q/\x.hi.q<=y.hi.q)
theorem Sub.jY{x y:Iv}(h:Sub x y){r:Rat}(k:x.jY r):y.jY r:=by
 rcases h with h|⟨h1,h2,h3⟩
 .exact .inl h
 .rcases k with k|⟨k1,k2⟩
  .rw [h1]at k;cases k
  .exact .inr ⟨aq,aq⟩
theorem Sub.wD{x y:Iv}(h:Sub x y)(k:y.all=false):x.all=false/\y.lo.q<=x.lo.q/\x.hi.q<=y.hi.q:=by
 rcases h with h|h
 .rw [h]at k;cases k
 .exact h
theorem Iv.ia.q{x:Iv}(h:x.ia):x.lo.q<=x.hi.q:=by
 rcases h with⟨_,h2,h3⟩|⟨_,_,_,h⟩
 .rw [h2,h3];exact b9
 .exact (pU _ _).1 h
theorem Iv.ia.xS{x:Iv}(h:x.ia):x.lo.lI/\x.hi.lI:=by
 rcases h with⟨_,h2,h3⟩|⟨_,h2,h3,_⟩
 .rw [h2,h3];exact⟨rD.canon,rD.canon⟩
 .exact ⟨h2.canon,h3.canon⟩
theorem Iv.ia.zQ{x:Iv}(h:x.ia):x.jY x.lo.q:=.inr ⟨b9,h.q⟩
theorem Iv.ia.CH{x:Iv}(h:x.ia):x.jY x.hi.q:=.inr ⟨h.q,b9⟩
structure DL(p:Nat)(S:Rat->Prop)(X:Iv):Prop where
 jY:∀ r,S r->X.jY r
 on:X.all=false->G p X.lo.q/\G p X.hi.q
 xt:∀ L U,G p L->G p U->(∀ r,S r->L<=r/\r<=U)->X.all=false/\L<=X.lo.q/\X.hi.q<=U
theorem J9{x y:Iv}(hx:x.ia)(hy:y.ia)(xa:x.all=false)(ya:y.all=false){p:Nat}(hp:1<=p)(ic:p<=4096):
 DL p (fun r=>∃ a b,x.jY a/\y.jY b/\r=a+b) (jk x y p):=by
 have A:=wI (AV hx.xS.1 hy.xS.1) hp ic;have B:=wJ (AV hx.xS.2 hy.xS.2) hp ic;rw[NB]at A B;unfold jk kE;rw[xa,ya];simp only[gq,bq,a6];have jY:∀ r,(∃ a b,x.jY a/\y.jY b/\r=a+b)->x.lo.q+y.lo.q<=r/\r<=x.hi.q+y.hi.q:=by
  rintro r ⟨a,b,ha,hb,rfl⟩;rcases ha with ha|ha
  .rw [xa]at ha;cases ha
  .rcases hb with hb|hb
   .rw [ya]at hb;cases hb
   .grind
 have xt:∀ L U,G p L->G p U->(∀ r,(∃ a b,x.jY a/\y.jY b/\r=a+b)->L<=r/\r<=U) ->
  (jz (iI x.lo y.lo) p false=0/\L<=(jj (iI x.lo y.lo) p false).q)/\jz (iI x.hi y.hi) p true=0/\(jj (iI x.hi y.hi) p true).q<=U:=fun L U hL hU h=>
  ⟨A.2 L hL (h _ ⟨_,_,hx.zQ,hy.zQ,rfl⟩).1,B.2 U hU (h _ ⟨_,_,hx.CH,hy.CH,rfl⟩).2⟩
 split
 .rename_i he
  refine⟨fun _ _=>.inl rfl,fun h=>absurd h ag,fun L U hL hU h=>?_⟩;obtain⟨⟨e1,_⟩,e2,_⟩:=xt L U hL hU h;rcases he with he|he
  .exact absurd e1 he
  .exact absurd e2 he
 .rename_i he
  obtain⟨a1,a2⟩:=A.1 ae;obtain⟨b1,b2⟩:=B.1 ae;refine⟨fun r hr=>.inr ?_,fun _=>⟨a1,b1⟩,fun L U hL hU h=>?_⟩
  .obtain ⟨h1,h2⟩:=jY r hr
   exact⟨bG a2 h1,bG h2 b2⟩
  .obtain ⟨⟨_,e1⟩,_,e2⟩:=xt L U hL hU h
   exact⟨rfl,e1,e2⟩
theorem Gs{x y:Iv}(p:Nat)(h:x.all=true\/y.all=true):jk x y p=ie:=by
 unfold jk;rw[aR (by rcases h with h|h<;>rw[h]<;>simp)]
theorem AO{x y:Iv}(hx:x.ia)(hy:y.ia){p:Nat}(hp:1<=p)(ic:p<=4096){a b:Rat}(ha:x.jY a)(hb:y.jY b):(jk x y p).jY (a+b):=by
 cases xa:x.all
 .cases ya:y.all
  .exact (J9 hx hy xa ya hp ic).jY _ ⟨a,b,ha,hb,rfl⟩
  .rw [Gs p (.inr ya)];exact .inl rfl
 .rw [Gs p (.inl xa)];exact .inl rfl
theorem RM{p:Nat}{D:Dy->Dy->Bool->Dy}{E:Dy->Dy->Bool->Int}{f:Rat->Rat->Rat}{x y:Iv}{S:Rat->Prop}
 (hD:∀ a b,(a=x.lo\/a=x.hi)->(b=y.lo\/b=y.hi)->Dn p (f a.q b.q) (D a b false) (E a b false)/\Up p (f a.q b.q) (D a b true) (E a b true)/\S (f a.q b.q))
 (hS:∀ r,S r->(f x.lo.q y.lo.q<=r\/f x.lo.q y.hi.q<=r\/f x.hi.q y.lo.q<=r\/f x.hi.q y.hi.q<=r)/\(r<=f x.lo.q y.lo.q\/r<=f x.lo.q y.hi.q\/r<=f x.hi.q y.lo.q\/r<=f x.hi.q y.hi.q)):
 DL p S (mg D E x y):=by
 obtain⟨a1,a2,a3⟩:=hD x.lo y.lo (.inl rfl) (.inl rfl);obtain⟨b1,b2,b3⟩:=hD x.lo y.hi (.inl rfl) (.inr rfl);obtain⟨c1,c2,c3⟩:=hD x.hi y.lo (.inr rfl) (.inl rfl);obtain⟨d1,d2,d3⟩:=hD x.hi y.hi (.inr rfl) (.inr rfl);have xt:∀ L U,G p L->G p U->(∀ r,S r->L<=r/\r<=U) ->
  ((E x.lo y.lo false=0/\L<=(D x.lo y.lo false).q)/\E x.lo y.lo true=0/\(D x.lo y.lo true).q<=U)/\((E x.lo y.hi false=0/\L<=(D x.lo y.hi false).q)/\E x.lo y.hi true=0/\(D x.lo y.hi true).q<=U) /\
  ((E x.hi y.lo false=0/\L<=(D x.hi y.lo false).q)/\E x.hi y.lo true=0/\(D x.hi y.lo true).q<=U)/\((E x.hi y.hi false=0/\L<=(D x.hi y.hi false).q)/\E x.hi y.hi true=0/\(D x.hi y.hi true).q<=U):=fun L U hL hU h=>
  ⟨⟨a1.2 L hL (h _ a3).1,a2.2 U hU (h _ a3).2⟩,⟨b1.2 L hL (h _ b3).1,b2.2 U hU (h _ b3).2⟩,⟨c1.2 L hL (h _ c3).1,c2.2 U hU (h _ c3).2⟩,⟨d1.2 L hL (h _ d3).1,d2.2 U hU (h _ d3).2⟩⟩
 unfold mg;split
 .rename_i he
  obtain⟨⟨e1,e2⟩,⟨e3,e4⟩,⟨e5,e6⟩,⟨e7,e8⟩⟩:=he;obtain⟨ga,la⟩:=a1.1 e1;obtain⟨gA,lA⟩:=a2.1 e2;obtain⟨gb,lb⟩:=b1.1 e3;obtain⟨gB,lB⟩:=b2.1 e4;obtain⟨gc,lc⟩:=c1.1 e5;obtain⟨gC,lC⟩:=c2.1 e6;obtain⟨gd,ld⟩:=d1.1 e7;obtain⟨gD,lD⟩:=d2.1 e8;obtain⟨m1,m2,m3⟩:=BO (D x.lo y.lo false) (D x.lo y.hi false);obtain⟨m4,m5,m6⟩:=BO (iV (D x.lo y.lo false) (D x.lo y.hi false)) (D x.hi y.lo false);obtain⟨m7,m8,m9⟩:=BO (iV (iV (D x.lo y.lo false) (D x.lo y.hi false)) (D x.hi y.lo false)) (D x.hi y.hi false);obtain⟨n1,n2,n3⟩:=FB (D x.lo y.lo true) (D x.lo y.hi true);obtain⟨n4,n5,n6⟩:=FB (iR (D x.lo y.lo true) (D x.lo y.hi true)) (D x.hi y.lo true);obtain⟨n7,n8,n9⟩:=FB (iR (iR (D x.lo y.lo true) (D x.lo y.hi true)) (D x.hi y.lo true)) (D x.hi y.hi true);generalize (iV (D x.lo y.lo false) (D x.lo y.hi false))=u1 at *
  generalize (iV u1 (D x.hi y.lo false))=u2 at *
  generalize (iV u2 (D x.hi y.hi false))=u3 at *
  generalize (iR (D x.lo y.lo true) (D x.lo y.hi true))=v1 at *
  generalize (iR v1 (D x.hi y.lo true))=v2 at *
  generalize (iR v2 (D x.hi y.hi true))=v3 at *
  refine⟨fun r hr=>.inr ?_,fun _=>⟨?_,?_⟩,fun L U hL hU h=>⟨rfl,?_,?_⟩⟩
  .obtain ⟨h1,h2⟩:=hS r hr
   constructor
   .show u3.q<=r
    rcases h1 with h1|h1|h1|h1<;>grind
   .show r<=v3.q
    rcases h2 with h1|h1|h1|h1<;>grind
  .show G p u3.q
   rcases m9 with h|h
   .rw [h];rcases m6 with h|h
    .rw [h];rcases m3 with h|h<;>rw[h]<;>assumption
    .rw [h];assumption
   .rw [h];assumption
  .show G p v3.q
   rcases n9 with h|h
   .rw [h];rcases n6 with h|h
    .rw [h];rcases n3 with h|h<;>rw[h]<;>assumption
    .rw [h];assumption
   .rw [h];assumption
  .obtain ⟨⟨⟨_,k1⟩,_,k2⟩,⟨⟨_,k3⟩,_,k4⟩,⟨⟨_,k5⟩,_,k6⟩,⟨⟨_,k7⟩,_,k8⟩⟩:=xt L U hL hU h
   show L<=u3.q;rcases m9 with h|h
   .rw [h];rcases m6 with h|h
    .rw [h];rcases m3 with h|h<;>rw[h]<;>assumption
    .rw [h];assumption
   .rw [h];assumption
  .obtain ⟨⟨⟨_,k1⟩,_,k2⟩,⟨⟨_,k3⟩,_,k4⟩,⟨⟨_,k5⟩,_,k6⟩,⟨⟨_,k7⟩,_,k8⟩⟩:=xt L U hL hU h
   show v3.q<=U;rcases n9 with h|h
   .rw [h];rcases n6 with h|h
    .rw [h];rcases n3 with h|h<;>rw[h]<;>assumption
    .rw [h];assumption
   .rw [h];assumption
 .rename_i he
  refine⟨fun _ _=>.inl rfl,fun h=>absurd h ag,fun L U hL hU h=>?_⟩;obtain⟨⟨⟨k1,_⟩,k2,_⟩,⟨⟨k3,_⟩,k4,_⟩,⟨⟨k5,_⟩,k6,_⟩,⟨⟨k7,_⟩,k8,_⟩⟩:=xt L U hL hU h;exact absurd ⟨⟨k1,k2⟩,⟨k3,k4⟩,⟨k5,k6⟩,k7,k8⟩ he
theorem QA{a b c d x y:Rat}(h1:a<=x)(h2:x<=b)(h3:c<=y)(h4:y<=d):
 (a*c<=x*y\/a*d<=x*y\/b*c<=x*y\/b*d<=x*y)/\(x*y<=a*c\/x*y<=a*d\/x*y<=b*c\/x*y<=b*d):=by
 have mono:∀ {u v w:Rat},u<=v->0<=w->u*w<=v*w:=fun h k=>b8 h k
 have anti:∀ {u v w:Rat},u<=v->w<=0->v*w<=u*w:=by
  intro u v w h k;have:=mono h (show 0 <= -w by grind)
  grind
 have side:∀ t:Rat,(t*c<=t*y\/t*d<=t*y)/\(t*y<=t*c\/t*y<=t*d):=by
  intro t;rw[fo t c,fo t d,fo t y];rcases Rat.le_total (a:=0) (b:=t)with h|h
  .exact ⟨.inl (mono h3 h),.inr (mono h4 h)⟩
  .exact ⟨.inr (anti h4 h),.inl (anti h3 h)⟩
 have sa:=side a;have sb:=side b;rcases Rat.le_total (a:=0) (b:=y)with h|h
 .have m1:=mono h1 h
  have m2:=mono h2 h;clear mono anti side;constructor
  .rcases sa.1 with k|k<;>grind
  .rcases sb.2 with k|k<;>grind
 .have m1:=anti h1 h
  have m2:=anti h2 h;clear mono anti side;constructor
  .rcases sb.1 with k|k<;>grind
  .rcases sa.2 with k|k<;>grind
theorem Iv.jY.ki{x:Iv}{r:Rat}(h:x.jY r)(k:x.all=false):x.lo.q<=r/\r<=x.hi.q:=by
 rcases h with h|h
 .rw [k]at h;cases h
 .exact h
theorem zF(a b:Dy):(kJ a b).lI:=qP _ _ _
theorem M0{x y:Iv}(hx:x.ia)(hy:y.ia)(xa:x.all=false)(ya:y.all=false){p:Nat}(hp:1<=p)(ic:p<=4096):
 DL p (fun r=>∃ a b,x.jY a/\y.jY b/\r=a*b) (iQ x y p):=by
 unfold iQ;rw[xa,ya];simp only[gq,bq,a6];refine RM (f:=fun a b=>a*b) (fun a b ha hb=>⟨?_,?_,a.q,b.q,?_,?_,rfl⟩) (fun r ⟨a,b,ha,hb,e⟩=>?_)
 .have:=wI (zF a b) hp ic;rwa[Dj]at this
 .have:=wJ (zF a b) hp ic;rwa[Dj]at this
 .rcases ha with rfl|rfl;exact hx.zQ;exact hx.CH
 .rcases hb with rfl|rfl;exact hy.zQ;exact hy.CH
 .obtain ⟨h1,h2⟩:=ha.ki xa
  obtain⟨h3,h4⟩:=hb.ki ya;rw[e];exact QA h1 h2 h3 h4
theorem IX{x y:Iv}(p:Nat)(h:x.all=true\/y.all=true):iQ x y p=ie:=by
 unfold iQ;rw[aR (by rcases h with h|h<;>rw[h]<;>simp)]
theorem M1{x y:Iv}(hx:x.ia)(hy:y.ia){p:Nat}(hp:1<=p)(ic:p<=4096){a b:Rat}(ha:x.jY a)(hb:y.jY b):(iQ x y p).jY (a*b):=by
 cases xa:x.all
 .cases ya:y.all
  .exact (M0 hx hy xa ya hp ic).jY _ ⟨a,b,ha,hb,rfl⟩
  .rw [IX p (.inr ya)];exact .inl rfl
 .rw [IX p (.inl xa)];exact .inl rfl
theorem MC{b c:Rat}(h0:0<c)(h:c<=b):b⁻¹<=c⁻¹:=by
 have hb:0<b:= aq ;apply ew (c:=b*c) _ (dL hb h0);have e1:b⁻¹*(b*c)=c:=by rw[<-ef,gF _ aq,ey]
 have e2:c⁻¹*(b*c)=b:=by rw[fo b c,<-ef,gF _ aq,ey]
 rw[e1,e2];exact h
theorem Vb(b:Rat):(-b)⁻¹ = -b⁻¹:=by
 by_cases h:b=0
 .rw [h];simp
 .have h1:(-b)⁻¹*(-b)=1:=gF _ aq 
  have h2:b⁻¹*b=1:=gF _ h;have h3:(-b)⁻¹*(-b)*b⁻¹=b⁻¹:=by rw[h1,ey]
  grind
theorem TZ{b c:Rat}(h0:b<0)(h:c<=b):b⁻¹<=c⁻¹:=by
 have:=MC (b:=-c) (c:=-b) aq aq;rw[Vb,Vb]at this
 grind
theorem Xl{y:Iv}(_hy:y.ia)(h:lN y≠0):y.all=false/\(0<y.lo.q\/y.hi.q<0):=by
 unfold lN at h;cases ya:y.all
 .rw [ya]at h
  simp only[bq,a6]at h;refine⟨rfl,?_⟩;split at h
  .rename_i h1;exact .inl ((re _).1.1 h1)
  .split at h
   .rename_i h1;exact .inr ((re _).2.1 h1)
   .exact absurd rfl h
 .rw [ya]at h;simp at h
theorem Ol{y:Iv}(ya:y.all=false)(h:0<y.lo.q\/y.hi.q<0):lN y≠0:=by
 unfold lN;rw[ya];simp only[bq,a6];rcases h with h|h
 .rw [aR ((re _).1.2 h)];decide
 .split
  .decide
  .rw [aR ((re _).2.2 h)];decide
theorem agq{d:Dy}(h:d.q≠0):d.m≠0:=by
 intro h0;apply h;rw[qv,h0];simp
theorem GW{x y:Iv}(hx:x.ia)(hy:y.ia)(xa:x.all=false)(hs:lN y≠0){p:Nat}(hp:1<=p)(ic:p<=4096):
 DL p (fun r=>∃ a b,x.jY a/\y.jY b/\r=a/b) (jS x y p):=by
 obtain⟨ya,h0⟩:=Xl hy hs;have hle:=hy.q;unfold jS;rw[xa,ya,aT hs];simp only[gq,bq,a6];refine RM (f:=fun a b=>a/b) (fun a b ha hb=>?_) (fun r ⟨a,b,ha,hb,e⟩=>?_)
 .have b0:b.m≠0:=agq (by rcases hb with rfl|rfl<;>grind)
  obtain⟨h1,h2⟩:=KL (a:=a) b0 hp ic;refine⟨h1,h2,a.q,b.q,?_,?_,rfl⟩
  .rcases ha with rfl|rfl;exact hx.zQ;exact hx.CH
  .rcases hb with rfl|rfl;exact hy.zQ;exact hy.CH
 .obtain ⟨h1,h2⟩:=ha.ki xa
  obtain⟨h3,h4⟩:=hb.ki ya;have i1:y.hi.q⁻¹<=b⁻¹:=by
   rcases h0 with h0|h0
   .exact MC aq h4
   .exact TZ aq h4
  have i2:b⁻¹<=y.lo.q⁻¹:=by
   rcases h0 with h0|h0
   .exact MC h0 h3
   .exact TZ aq h3
  obtain⟨k1,k2⟩:=QA h1 h2 i1 i2;rw[e];simp only[cA];exact⟨aq,aq⟩
theorem D5{x y:Iv}(p:Nat)(h:x.all=true\/lN y=0):jS x y p=ie:=by
 unfold jS;rw[aR (by rcases h with h|h<;>rw[h]<;>simp)]
theorem GX{x y:Iv}(hx:x.ia)(hy:y.ia){p:Nat}(hp:1<=p)(ic:p<=4096){a b:Rat}(ha:x.jY a)(hb:y.jY b):(jS x y p).jY (a/b):=by
 cases xa:x.all
 .by_cases hs:lN y=0
  .rw [D5 p (.inr hs)];exact .inl rfl
  .exact (GW hx hy xa hs hp ic).jY _ ⟨a,b,ha,hb,rfl⟩
 .rw [D5 p (.inl xa)];exact .inl rfl
theorem BF{x:Iv}(h:x.lo.q<=x.hi.q):x.hi.q<=(my x).q /\ -x.lo.q<=(my x).q/\((my x).q=x.hi.q\/(my x).q = -x.lo.q):=by
 obtain⟨a1,a2,a3,a4⟩:=yR x.lo;obtain⟨b1,b2,b3,b4⟩:=yR x.hi;obtain⟨c1,c2,c3⟩:=FB (k0 x.lo) (k0 x.hi);unfold my;generalize (iR (k0 x.lo) (k0 x.hi)).q=M at *
 refine⟨aq,aq,?_⟩;rcases c3 with c3|c3
 .rcases a4 with a4|a4
  .grind
  .grind
 .rcases b4 with b4|b4
  .grind
  .grind
theorem agu{x x':Iv}(hx:x.ia)(z8:x'.ia)(h:Sub x x')(xa:x'.all=false):(my x).q<=(my x').q:=by
 obtain⟨h1,h2,h3⟩:=h.wD xa;obtain⟨a1,a2,a3⟩:=BF hx.q;obtain⟨b1,b2,b3⟩:=BF z8.q
 grind
theorem MY{x:Iv}(hx:x.ia)(xa:x.all=false):0<=(nj x).q/\(x.lo.q<=0->0<=x.hi.q->(nj x).q=0)/\(0<x.lo.q->(nj x).q=x.lo.q)/\(x.hi.q<0->(nj x).q = -x.hi.q):=by
 have hle:=hx.q;obtain⟨a1,a2,a3,a4⟩:=yR x.lo;obtain⟨b1,b2,b3,b4⟩:=yR x.hi;obtain⟨c1,c2,c3⟩:=BO (k0 x.lo) (k0 x.hi);by_cases hs:lN x=0
 .have hn:¬(0<x.lo.q\/x.hi.q<0):=fun h=>Ol xa h hs
  have:nj x=jA:=by unfold nj;rw[aR hs]
  rw[this,rz];refine⟨b9,fun _ _=>rfl,fun h=>absurd (.inl h) hn,fun h=>absurd (.inr h) hn⟩
 .obtain ⟨_,h0⟩:=Xl hx hs
  have:nj x=iV (k0 x.lo) (k0 x.hi):=by unfold nj;rw[aQ hs]
  rw[this];generalize (iV (k0 x.lo) (k0 x.hi)).q=M at *
  generalize (k0 x.lo).q=u at *
  generalize (k0 x.hi).q=v at *
  refine⟨aq,aq,aq,aq⟩
theorem ami{x x':Iv}(hx:x.ia)(z8:x'.ia)(h:Sub x x'):Sub (iY x) (iY x'):=by
 cases xa:x'.all
 .obtain ⟨h1,h2,h3⟩:=h.wD xa
  unfold iY;rw[h1,xa];refine .inr ⟨rfl,?_,agu hx z8 h xa⟩;show(nj x').q<=(nj x).q;obtain⟨a1,a2,a3,a4⟩:=MY hx h1;obtain⟨b1,b2,b3,b4⟩:=MY z8 xa;have:=hx.q;by_cases c1:0<x'.lo.q
  .rw [b3 c1,a3 aq];exact h2
  .by_cases c2:x'.hi.q<0
   .rw [b4 c2,a4 aq];grind
   .rw [b2 aq aq];exact a1
 .refine .inl ?_
  unfold iY;rw[aR xa];rfl
theorem Gq{x:Iv}(hx:x.ia){r s:Rat}(h:x.jY r)(hs:s=r/\0<=r\/s = -r/\r<=0):(iY x).jY s:=by
 unfold iY;cases xa:x.all
 .obtain ⟨h1,h2⟩:=h.ki xa
  obtain⟨a1,a2,a3⟩:=BF hx.q;obtain⟨b1,b2,b3,b4⟩:=MY hx xa;refine .inr ⟨?_,?_⟩
  .show (nj x).q<=s
   by_cases c1:0<x.lo.q
   .rw [b3 c1];grind
   .by_cases c2:x.hi.q<0
    .rw [b4 c2];grind
    .rw [b2 aq aq];grind
  .show s<=(my x).q
   grind
 .exact .inl rfl
theorem Ny(d:Dy):(mf d).jY d.q:=.inr ⟨b9,b9⟩
theorem yP(n:Int):(jE n).jY (n:Rat):=by have:=Ny (je n);rwa[xB]at this
def ix(d:Dy)(p:Nat)(up:Bool):Nat->Dy×Int
 | 0=>(jj d p up,jz d p up)
 |k+1=>if(ix d p up k).2≠0 then ix d p up k else(jj (kJ (ix d p up k).1 d) p up,jz (kJ (ix d p up k).1 d) p up)
def kQ(d:Dy)(n p:Nat)(up:Bool):Dy×Int:=if d.iJ<0 then(iF (ix (iF d) p (!up) (n-1)).1,(ix (iF d) p (!up) (n-1)).2)else ix d p up (n-1)
def qu(x:Iv)(n:Nat):Iv:=if n%2=0 then iY x else x
def mi(x:Iv)(n p:Nat):Iv:=
 if x.all then ie else if n=0 then mf ⟨false,1,0⟩
 else kE (kQ (qu x n).lo n p false).1 (kQ (qu x n).lo n p false).2 (kQ (qu x n).hi n p true).1 (kQ (qu x n).hi n p true).2
def nA(r:Rat):Nat->Rat
 | 0=>1
 |n+1=>nA r n*r
theorem BY{r:Rat}(h:0<=r):∀ n,0<=nA r n
 | 0=>by show(0:Rat)<=1;decide
 |n+1=>bM (BY h n) h
theorem FR{a b:Rat}(h0:0<=a)(h:a<=b):∀ n,nA a n<=nA b n
 | 0=>b9
 |n+1=>by
  have ih:=FR h0 h n;have m1:=b8 ih h0;have m2:=cB h (BY (bG h0 h) n);exact bG m1 m2
theorem BX(r:Rat):∀ n,nA (-r) n=if n%2=0 then nA r n else -nA r n
 | 0=>rfl
 |n+1=>by
  have ih:=BX r n;simp only[nA,ih];have:n%2=0\/n%2=1:= ae ;rcases this with h|h
  .have h':(n+1)%2=1:= ae 
   rw[h,h'];simp;grind
  .have h':(n+1)%2=0:= ae 
   rw[h,h'];simp;grind
theorem N5{a b:Rat}{n:Nat}(hn:n%2=1)(h:a<=b):nA a n<=nA b n:=by
 by_cases h0:0<=a
 .exact FR h0 h n
 .have ea:=BX (-a) n
  rw[fm,hn]at ea;simp only[gG,a6]at ea;by_cases hb:0<=b
  .have h1:=BY (show 0 <= -a by grind) n
   have h2:=BY hb n
   grind
  .have eb:=BX (-b) n
   rw[fm,hn]at eb;simp only[gG,a6]at eb;have:=FR (show 0 <= -b by grind) (show -b <= -a by grind) n
   grind
theorem Nz{d:Dy}(hd:d.lI)(h0:0<=d.q){p:Nat}(hp:1<=p)(ic:p<=4096):∀ k,(ix d p false k).2=0->0<=(ix d p false k).1.q/\(ix d p false k).1.q<=nA d.q (k+1)
 | 0,he=>by
  have A:=wI hd hp ic;refine⟨(A.2 0 (.inl (wP p)) h0).2,?_⟩;have:=(A.1 he).2;simp only[nA,ey];exact this
 |k+1,he=>by
  by_cases hk:(ix d p false k).2≠0
  .exfalso;simp only[ix,aR hk]at he;exact hk he
  .have q7:(ix d p false k).2=0:= ae 
   obtain⟨i1,i2⟩:=Nz hd h0 hp ic k q7;have A:=wI (zF (ix d p false k).1 d) hp ic;rw[Dj]at A;simp only[ix,aQ hk]at he ⊢;refine⟨(A.2 0 (.inl (wP p)) (bM i1 h0)).2,?_⟩;have h1:=(A.1 he).2;have h2:=b8 i2 h0;exact bG h1 h2
theorem NA{d:Dy}(hd:d.lI)(h0:0<=d.q){p:Nat}(hp:1<=p)(ic:p<=4096):∀ k,(ix d p true k).2=0->nA d.q (k+1)<=(ix d p true k).1.q
 | 0,he=>by
  have A:=wJ hd hp ic;have:=(A.1 he).2;simp only[nA,ey];exact this
 |k+1,he=>by
  by_cases hk:(ix d p true k).2≠0
  .exfalso;simp only[ix,aR hk]at he;exact hk he
  .have q7:(ix d p true k).2=0:= ae 
   have i2:=NA hd h0 hp ic k q7;have A:=wJ (zF (ix d p true k).1 d) hp ic;rw[Dj]at A;simp only[ix,aQ hk]at he ⊢;have h1:=(A.1 he).2;have h2:=b8 i2 h0;exact bG h2 h1
theorem acb{d:Dy}(hd:d.lI){n p:Nat}(hn:1<=n)(hs:0<=d.q\/n%2=1)(hp:1<=p)(ic:p<=4096)(he:(kQ d n p false).2=0):(kQ d n p false).1.q<=nA d.q n:=by
 unfold kQ at he ⊢;by_cases h:d.iJ<0
 .rw [aR h]at he ⊢
  have hq:=(re d).2.1 h;have zW:=hs.resolve_left aq;have:=NA (Db hd) (by rw[oF];grind) hp ic (n-1) he;rw[show n-1+1=n by omega,oF,BX,zW]at this;simp only[gG,a6]at this;show(iF _).q<=_;rw[oF];simp only[dH]
  grind
 .rw [aQ h]at he ⊢
  have h0:0<=d.q:=by
   apply dp.1;intro iD;exact h ((re d).2.2 iD)
  have:=(Nz hd h0 hp ic (n-1) he).2;rwa[show n-1+1=n by omega]at this
theorem acd{d:Dy}(hd:d.lI){n p:Nat}(hn:1<=n)(hs:0<=d.q\/n%2=1)(hp:1<=p)(ic:p<=4096)(he:(kQ d n p true).2=0):nA d.q n<=(kQ d n p true).1.q:=by
 unfold kQ at he ⊢;by_cases h:d.iJ<0
 .rw [aR h]at he ⊢
  have hq:=(re d).2.1 h;have zW:=hs.resolve_left aq;have:=(Nz (Db hd) (by rw[oF];grind) hp ic (n-1) he).2;rw[show n-1+1=n by omega,oF,BX,zW]at this;simp only[gG,a6]at this;show _<=(iF _).q;rw[oF];simp only[eP]
  grind
 .rw [aQ h]at he ⊢
  have h0:0<=d.q:=by
   apply dp.1;intro iD;exact h ((re d).2.2 iD)
  have:=NA hd h0 hp ic (n-1) he;rwa[show n-1+1=n by omega]at this
theorem ahM{x:Iv}(hx:x.ia){n p:Nat}(hp:1<=p)(ic:p<=4096){r:Rat}(h:x.jY r):(mi x n p).jY (nA r n):=by
 unfold mi;cases xa:x.all
 .simp only[bq,a6]
  by_cases hn:n=0
  .rw [aR hn]
   subst hn;have e:(⟨false,1,0⟩:Dy).q=1:= ar ;refine .inr ⟨?_,?_⟩
   .show (⟨false,1,0⟩:Dy).q<=1
    rw[e];exact b9
   .show 1<=(⟨false,1,0⟩:Dy).q
    rw[e];exact b9
  .rw [aQ hn]
   obtain⟨s,hs,ua,hsn⟩:∃ s,(qu x n).jY s/\(n%2=0->0<=(qu x n).lo.q/\0<=s)/\nA r n=nA s n:=by
    unfold qu;by_cases pI:n%2=0
    .rw [aR pI]
     have hl:0<=(iY x).lo.q:=by
      unfold iY;rw[xa];show 0<=(nj x).q;unfold nj;split
      .rw [rz];exact b9
      .obtain ⟨_,_,m⟩:=BO (k0 x.lo) (k0 x.hi)
       rcases m with m|m<;>rw[m]
       .exact (yR x.lo).1
       .exact (yR x.hi).1
     by_cases hr:0<=r
     .exact ⟨r,Gq hx h (.inl ⟨rfl,hr⟩),fun _=>⟨hl,hr⟩,rfl⟩
     .refine ⟨-r,Gq hx h (.inr ⟨rfl,aq⟩),fun _=>⟨hl,aq⟩,?_⟩
      rw[BX,aR pI]
    .rw [aQ pI]
     exact⟨r,h,fun q=>absurd q pI,rfl⟩
   have hyv:(qu x n).ia:=by unfold qu;split;exact DQ hx;exact hx
   have ya:(qu x n).all=false:=by
    unfold qu;split
    .unfold iY;rw[xa];rfl
    .exact xa
   rw[hsn];generalize qu x n=y at *
   obtain⟨s1,s2⟩:=hs.ki ya;obtain⟨c1,c2⟩:=hyv.xS;unfold kE;split
   .exact .inl rfl
   .rename_i he
    have zW:¬n%2=0->n%2=1:=fun q=> ae 
    refine .inr ⟨?_,?_⟩
    .refine bG (acb c1 ae ?_ hp ic ae) ?_
     .by_cases pI:n%2=0
      .exact .inl (ua pI).1
      .exact .inr (zW pI)
     .by_cases pI:n%2=0
      .exact FR (ua pI).1 s1 n
      .exact N5 (zW pI) s1
    .refine bG ?_ (acd c2 ae ?_ hp ic ae)
     .by_cases pI:n%2=0
      .exact FR (ua pI).2 s2 n
      .exact N5 (zW pI) s2
     .by_cases pI:n%2=0
      .exact .inl (bG (ua pI).2 s2)
      .exact .inr (zW pI)
 .rw [aR rfl];exact .inl rfl
end Go.Proofs.YtdgnpeddgdclhaaGreatDoor.Fp
namespace Go.Proofs.YtdgnpeddgdclhaaGreatDoor
open Go.RowKit Fp Pu
structure mX where
 kind:Nat
 a:Nat
 b:Nat
 n:Nat
 cn:Int
 cd:Int
structure pg where
 im:Nat
 gW:List mX
 ij:List Nat
structure lj where
 tape:pg
 iz:Nat
 params:List Iv
def iT:mX:=⟨0,0,0,0,0,0⟩
def I9(o:mX):List E:=[iP (o.kind:Int),iP (o.a:Int),iP (o.b:Int),iP (o.n:Int),iP o.cn,iP o.cd]
def vo(o:mX):E:=.agg (I9 o)
def nY(l:List mX):E:=.sl true l.length 6 fun i j=>(I9 (l.getD i iT)).getD j .any
def nX(l:List Nat):E:=.sl true l.length 1 fun i _=>iP (l.getD i 0:Int)
def ala(t:pg):List E:=[iP (t.im:Int),nY t.gW,nX t.ij]
def y4(t:pg):E:=.agg (ala t)
def akP(s:lj):List E:=[iP (s.tape.im:Int),nY s.tape.gW,nX s.tape.ij,iP (s.iz:Int),ig s.params]
def iM(s:lj):E:=.agg (akP s)
def lL(n d:Int):Bool:=decide (1<=d)&&(decide (d<=1073741824)&&(decide (-1073741824<=n)&&(decide (n<=1073741824)&&decide (Nat.gcd n.natAbs d.natAbs=1))))
theorem FI{n d:Int}(h:lL n d=true):1<=d/\d<=1073741824 /\ -1073741824<=n/\n<=1073741824:=by
 unfold lL at h;simp only[bA,bZ]at h;exact⟨h.1,h.2.1,h.2.2.1,h.2.2.2.1⟩
structure nn(o:mX)(m:Nat):Prop where
 k3:o.kind=1\/3<=o.kind
 C5:o.kind<=13
 a:if o.kind=1 then o.a=0 else o.a<m
 b:if 3<=o.kind/\o.kind<=6 then o.b<m else o.b=0
 n:if o.kind=8 then o.n<=16 else o.n=0
 c:if o.kind=1 then lL o.cn o.cd=true else o.cn=0/\o.cd=0
structure zj(t:pg):Prop where
 im:t.im<=8
 gW:t.gW.length<=200
 ij:t.ij.length<=200
 op:∀ i,i<t.gW.length->nn (t.gW.getD i iT) (t.im+i)
 out:∀ i,i<t.ij.length->t.ij.getD i 0<t.im+t.gW.length
def oO(l:List Iv):Prop:=∀ i,i<l.length->(l.getD i ie).ia/\(l.getD i ie).all=false
structure mz(s:lj):Prop where
 tape:zj s.tape
 s1:1<=s.iz
 s4:s.iz<=4
 ij:s.tape.ij.length=s.iz
 im:s.tape.im=s.iz+s.params.length
 p4:s.params.length<=4
 params:oO s.params
structure ks(n:Nat)(b:List Iv):Prop where
 len:b.length=n
 ok:oO b
def nf(l:List Iv):Bool:=(List.range l.length).any fun i=>(l.getD i ie).all
def jX(h:Dy):Iv:=⟨jA,h,false⟩
def Mw(x f:List Iv)(h:Dy)(p i:Nat):Iv:=jk (x.getD i ie) (iQ (jX h) (f.getD i ie) p) p
def wC(x f:List Iv)(h:Dy)(p:Nat):List Iv:=(List.range x.length).map (Mw x f h p)
theorem JE{h:Dy}(hv:h.ia)(h0:0<=h.q):(jX h).ia:=.inr ⟨rfl,rD,hv,by show jo jA h<=0;rw[pU,rz];exact h0⟩
theorem wK(d:Dy){p:Nat}(hp:1<=p)(ic:p<=4096)(up:Bool):(jj d p up).ia:=mn _ _ _ _ _ _ hp ic
theorem um(d:Dy){p:Nat}(hp:1<=p)(ic:p<=4096)(up:Bool):∀ k,(ix d p up k).1.ia
 | 0=>wK _ hp ic _
 |k+1=>by
  unfold ix;split
  .exact um d hp ic up k
  .exact wK _ hp ic _
theorem Rj(d:Dy)(n:Nat){p:Nat}(hp:1<=p)(ic:p<=4096)(up:Bool):(kQ d n p up).1.ia:=by
 unfold kQ;split
 .exact qt (um _ hp ic _ _)
 .exact um _ hp ic _ _
theorem Nl:canon false 1 0=⟨false,1,0⟩:=by
 have h1:(canon false 1 0).neg=false:= ar ;have h2:(canon false 1 0).m=1:= ar ;have h3:(canon false 1 0).e=0:= ar ;generalize canon false 1 0=d at *
 cases d;simp_all
theorem Df:(⟨false,1,0⟩:Dy).ia:=by
 have h2:mQ (canon false 1 0):= ar ;rw[<-Nl];exact⟨qP _ _ _,h2⟩
theorem ahN{x:Iv}(hx:x.ia)(n:Nat){p:Nat}(hp:1<=p)(ic:p<=4096):(mi x n p).ia:=by
 have hh:=ahM hx (n:=n) hp ic hx.zQ;revert hh;unfold mi;split
 .intro _;exact mj
 .split
  .intro _;exact vt Df
  .unfold kE
   split
   .intro _;exact mj
   .intro hh
    obtain⟨h1,h2⟩:=hh.ki rfl;exact .inr ⟨rfl,Rj _ _ hp ic _,Rj _ _ hp ic _,(pU _ _).2 (bG h1 h2)⟩
def pV(l:List Iv):Prop:=∀ i,(l.getD i ie).ia
theorem pV.push{l:List Iv}(h:pV l){y:Iv}(hy:y.ia):pV (l++[y]):=fun i=>by
 rw[aW,fB];split
 .have:=h i;rwa[aW]at this
 .rcases i-l.length with _|j
  .exact hy
  .exact mj
theorem oO.OJ{l:List Iv}(h:oO l):pV l:=fun i=>by
 by_cases hi:i<l.length
 .exact (h i hi).1
 .rw [aW,bV ae];exact mj
theorem pV.append{l r:List Iv}(h:pV l)(k:pV r):pV (l++r):=fun i=>by
 rw[aW,fB];split
 .have:=h i;rwa[aW]at this
 .have:=k (i-l.length);rwa[aW]at this
theorem aef{l:List Iv}(h:nf l=false)(v:pV l):oO l:=fun i hi=>⟨v i,by simpa using List.any_eq_false.1 h i (bJ.2 hi)⟩
theorem afh{x f:List Iv}{h:Dy}(hx:pV x){p:Nat}(hp:1<=p)(ic:p<=4096)(i:Nat):(Mw x f h p i).ia:=r8 (hx i) (qU _ _ hp ic) hp ic
theorem C1(x f:List Iv)(h:Dy)(p:Nat):(wC x f h p).length=x.length:=by simp[wC]
theorem Bv{x f:List Iv}{h:Dy}{p i:Nat}(hi:i<x.length):(wC x f h p).getD i ie=Mw x f h p i:=by
 simp[wC,aW,hi]
theorem afi{x f:List Iv}{h:Dy}(hx:pV x){p:Nat}(hp:1<=p)(ic:p<=4096):pV (wC x f h p):=fun i=>by
 by_cases hi:i<x.length
 .rw [Bv hi];exact afh hx hp ic i
 .rw [aW,bV (by rw[C1];omega)];exact mj
def mU(a b:List Iv):Bool:=(List.range a.length).all fun i=>pP (a.getD i ie) (b.getD i ie)
def uV(x:Iv)(d:Dy):Bool:=decide (mJ (iI x.lo (iF d))=0)&&decide (mJ (iI x.hi d)=0)
def qE(x:Iv)(d:Dy):Iv:=⟨kB (iI x.lo (iF d)),kB (iI x.hi d),false⟩
def sM(x:List Iv)(d:Dy):Bool:=(List.range x.length).all fun i=>uV (x.getD i ie) d
def qZ(x:List Iv)(d:Dy):List Iv:=if sM x d then(List.range x.length).map fun i=>qE (x.getD i ie) d else[]
def CX(x y:Iv):Iv:=if x.all||y.all then ie else⟨iV x.lo y.lo,iR x.hi y.hi,false⟩
def tG(x:Iv)(p:Nat):Dy:=jj (iI x.hi (iF x.lo)) p true
def AM(x:Iv)(p:Nat):Int:=jz (iI x.hi (iF x.lo)) p true
theorem ae5{x y:Iv}(hx:x.ia)(hy:y.ia):(CX x y).ia:=by
 unfold CX;cases xa:x.all
 .cases ya:y.all
  .obtain ⟨x1,x2⟩:x.lo.ia/\x.hi.ia:=hx.ki
   obtain⟨y1,y2⟩:y.lo.ia/\y.hi.ia:=hy.ki;refine .inr ⟨rfl,qg x1 y1,oY x2 y2,?_⟩;rw[pU];have hq:=hx.q;obtain⟨a1,a2,_⟩:=BO x.lo y.lo;obtain⟨b1,b2,_⟩:=FB x.hi y.hi
   grind
  .exact mj
 .exact mj
theorem ad1{x:Iv}(hx:x.ia){d:Dy}(hd:d.ia)(h0:0<=d.q)(h:uV x d=true):(qE x d).ia:=by
 unfold uV at h;rw[bA,bZ,bZ]at h;obtain⟨h1,h2⟩:=h;have r1:mQ (iI x.lo (iF d)):=bE fun q=>by rw[GN q]at h1;cases h1
 have r2:mQ (iI x.hi d):=bE fun q=>by rw[GN q]at h2;cases h2
 obtain⟨c1,c2⟩:=hx.xS;unfold qE;refine .inr ⟨rfl,Qn (AV c1 (qt hd).canon),Qn (AV c2 hd.canon),?_⟩;show jo (kB _) (kB _)<=0;rw[AW r1,AW r2,pU,NB,NB,oF];have:=hx.q
 grind
theorem adZ{x:List Iv}{n:Nat}(hx:ks n x){d:Dy}(hd:d.ia)(h0:0<=d.q)(h:sM x d=true):ks n (qZ x d):=by
 unfold qZ;rw[aR h];refine⟨by simp[hx.len],fun i hi=>?_⟩;have oM:i<x.length:=by simpa using hi
 have e:((List.range x.length).map fun i=>qE (x.getD i ie) d).getD i ie=qE (x.getD i ie) d:=by simp[aW,oM]
 rw[e];exact⟨ad1 (hx.ok i oM).1 hd h0 (bH.1 h i (bJ.2 oM)),rfl⟩
open Go.RowKit Fp Pu
theorem abJ(s:Bool)(L:List Nat)(e:Int)(hk:iC L)(hl:L.length<=256)(kR:-1000000<=e)(kx:e<=1000000):gU 79 [bP s,gX L,iP e] (gY (canon s (val L) e)):=by
 refine⟨Tryz.call79,fun w B vs hK hB hr=>?_⟩;obtain⟨v1,vs,rfl,h1,hr⟩:=hr.lY;obtain⟨v2,vs,rfl,h2,hr⟩:=hr.lY;obtain⟨v3,vs,rfl,h3,hr⟩:=hr.lY;obtain rfl:=hr.qh;obtain rfl:=iG.kK h1;obtain rfl:=iG.kK h3;obtain⟨A,c,rfl,s1⟩:=uw hk h2;exact(G4 s A c L e w s1 ae (by have:=oH L;unfold lV at this;omega) kR kx hK).mono fun e w' h=>rd B w e w' hB h
theorem alm(x y:Nat):E.le (.sl false 2 1 fun i j=>[E.v (.int .u32 (x:Int)),.v (.int .u32 (y:Int))].getD (i*1+j) (.v (.bool false))) (gX [x,y]):=.sl fun i j hi hj=>by
 obtain rfl:j=0:= ae ;obtain rfl|rfl:i=0\/i=1:= ae 
 .exact ⟨.refl _,rfl⟩
 .exact ⟨.refl _,rfl⟩
theorem By(n:Nat):je (n:Int)=canon false n 0:=by
 unfold je kV;rw[aT ae,dA]
theorem MA(n:Nat)(h:n<4294967296):(je (n:Int)).ia:=by
 rw[By];refine⟨qP _ _ _,?_⟩;by_cases h0:n=0
 .subst h0;exact .inl rfl
 .have:=AU (s:=false) (e:=0) h0
  have hb:ib n<=32:=kO.2 h;refine .inr ⟨ae,ae,?_,ae⟩;obtain⟨h1,h2,h3,h4⟩:=this;have:=mS h3;omega
theorem alO(x y:Nat):val [x,y]=x+4294967296*y:=by simp[val]
open Go.RowKit Fp Pu
def PI(d:Dy)(n p:Nat)(x:Nat):PS:=⟨41,true,[(14,.e (iP (((x+1):Nat):Int))),(13,.e (iP ((ix d p false x).2))),(12,.box 12 0),(10,.box 10 0),(5,.box 5 0),(1,.e (iP n)),(2,.e (iP p)),(4,.e (.fn 92 []))],[(12,.cells 31 (jq ((ix d p false x).1))),(10,.cells 31 [(bP false),(.v (.slice none 0 0)),(iP 0)]),(5,.cells 31 (jq d))]⟩
def PJ(d:Dy)(n N p:Nat)(x:Nat):PS:=⟨41,true,[(14,.e (iP (((x+1):Nat):Int))),(13,.e (iP ((ix d p false x).2))),(12,.box 12 0),(10,.box 10 0),(5,.box 5 0),(1,.e (iP n)),(2,.e (iP p)),(4,.e (.fn 92 []))],[(12,.cells 31 (jq ((ix d p false x).1))),(10,.cells 31 [(bP false),(.v (.slice none 0 0)),(iP 0)]),(5,.cells 31 (jq d))]⟩
def PK(d:Dy)(n p:Nat)(x:Nat):PS:=⟨41,true,[(14,.e (iP (((x+1):Nat):Int))),(13,.e (iP ((ix d p true x).2))),(12,.box 12 0),(10,.box 10 0),(5,.box 5 0),(1,.e (iP n)),(2,.e (iP p)),(4,.e (.fn 93 []))],[(12,.cells 31 (jq ((ix d p true x).1))),(10,.cells 31 [(bP false),(.v (.slice none 0 0)),(iP 0)]),(5,.cells 31 (jq d))]⟩
def PL(d:Dy)(n N p:Nat)(x:Nat):PS:=⟨41,true,[(14,.e (iP (((x+1):Nat):Int))),(13,.e (iP ((ix d p true x).2))),(12,.box 12 0),(10,.box 10 0),(5,.box 5 0),(1,.e (iP n)),(2,.e (iP p)),(4,.e (.fn 93 []))],[(12,.cells 31 (jq ((ix d p true x).1))),(10,.cells 31 [(bP false),(.v (.slice none 0 0)),(iP 0)]),(5,.cells 31 (jq d))]⟩
theorem ZK(a b:Dy)(ha:a.ia)(hb:b.ia):gU 190 [gY a,gY b] (.iw [gY (kB (iI a b)),iP (mJ (iI a b))]):=Jb Tryz.call190 (fun A c A' c' w h k hT=>Q6 a b A A' c c' w h k hT ha hb) FK
theorem DU(a b:Dy)(ha:a.ia)(hb:b.ia):gU 156 [gY a,gY b] (.iw [gY (kB (iI a (iF b))),iP (mJ (iI a (iF b)))]):=Jb Tryz.call156 (fun A c A' c' w h k hT=>abQ a b A A' c c' w h k hT ha hb) FK
theorem DS(a b:Dy)(ha:a.ia)(hb:b.ia):gU 157 [(gY a),(gY b)] (.iw [(gY (kB (iI a b))),(iP (mJ (iI a b)))]):=by
 exact tr true Tryz.call157 Tryz.func157 (chain [.c (qp _ af:gU 68 [(gY a)] _),.c (qp _ af:gU 68 [(gY b)] _),.c (ZK _ _ af af:gU 190 [(gY a),(gY b)] _)]<|.nil) ah 
theorem Y8(s:Bool)(m:Nat)(e:Int)(hl:(gV m).length<=256)(kR:-1000000<=e)(kx:e<=1000000):gU 79 [bP s,gX (gV m),iP e] (gY (canon s m e)):=by
 refine⟨Tryz.call79,fun w B vs hK hB hr=>?_⟩;obtain⟨v1,vs,rfl,h1,hr⟩:=hr.lY;obtain⟨v2,vs,rfl,h2,hr⟩:=hr.lY;obtain⟨v3,vs,rfl,h3,hr⟩:=hr.lY;obtain rfl:=hr.qh;obtain rfl:=iG.kK h1;obtain rfl:=iG.kK h3;obtain⟨A,c,rfl,s1⟩:=uw (kA m) h2;exact(Cj s m e A c w s1 hl kR kx hK).mono fun e w' h=>rd B w e w' hB h
theorem Y9(d:Dy)(hl:(gV d.m).length<=100000000)(kR:-10000000<=d.e)(kx:d.e<=10000000):gU 78 [gY d] (.iw [gY (kB d),iP (mJ d)]):=
 xz Tryz.call78 (fun A c w h _=>GL d A c w h ae ae ae) FK
theorem Zj(k:Int)(h1:-32768<=k)(h2:k<=32768):gU 77 [(iP k)] (bP true):=by
 exact tr true Tryz.call77 Tryz.func77 (chain [tT 4 ((-32768)<=k) ae,tT 7 (k<=32768) ae]<|.nil) ah 
theorem Kh(d:Dy)(k:Int)(hv:d.ia)(h1:-32768<=k)(h2:k<=32768):gU 36 [(gY d),(iP k)] (.iw [(gY (kB (canon d.neg d.m (d.e+k)))),(iP (mJ (canon d.neg d.m (d.e+k))))]):=by
 have hl:=hv.gV;have he:=hv.exp;have jc:=Qg (kA d.m) hl d.neg (d.e+k);obtain⟨me,pk⟩:=Qe (kA d.m) hl d.neg (d.e+k) ae ae;rw[jD]at jc me pk;exact tr true Tryz.call36 Tryz.func36 (chain [.c (qp _ af:gU 68 [(gY d)] _),.c (Zj _ ae ae:gU 77 [(iP k)] _),iq (d.e+k) ae,.c (Y8 _ _ _ ae ae ae:gU 79 [(bP d.neg),(gX (gV d.m)),(iP (d.e+k))] _),.c (Y9 _ ae ae ae:gU 78 [(gY (canon d.neg d.m (d.e+k)))] _)]<|.nil) ah 
theorem Kf(n:Nat)(h:n<4294967296):gU 113 [(iP n)] (gY (je (n:Int))):=by
 have ok2:iC [n%4294967296,n/4294967296%4294967296]:=iC.cons (bg _ ag) (iC.cons (bg _ ag) iC.nil);exact tr true Tryz.call113 Tryz.func113 (chain [.o 5 (.int (pB _ ae):PV.le (.e (.v (.int .u64 (IntKind.u64.wrap (n:Int))))) (.e (.v (.int .u64 (n:Int))))),tF 7 ((n:Int)<0) ae,tF 11 ((n:Int)<0) ae,.o 13 (.int (uA _):PV.le (.e (.v (.int .u32 (IntKind.u32.wrap (n:Int))))) (.e (.v (.int .u32 (((n%4294967296):Nat):Int))))),.a (ae:0<=(32:Int)/\(32:Int)<=((64:Nat):Int)),.o 15 (.int (B2 _):PV.le (.e (.v (.int .u64 ((n:Int)/2^32)))) (.e (.v (.int .u64 (((n/4294967296):Nat):Int))))),.o 16 (.int (uA _):PV.le (.e (.v (.int .u32 (IntKind.u32.wrap (((n/4294967296):Nat):Int))))) (.e (.v (.int .u32 ((((n/4294967296)%4294967296):Nat):Int))))),.o 17 (.e (alm _ _):PV.le (.e (.sl false 2 1 fun i_ j_=>[(.v (.int .u32 (((n%4294967296):Nat):Int))),(.v (.int .u32 ((((n/4294967296)%4294967296):Nat):Int)))].getD (i_*1+j_) (.v (.bool false)))) (.e (gX [(n%4294967296),((n/4294967296)%4294967296)]))),.c (abJ _ _ _ ok2 aj ag ag:gU 79 [(bP false),(gX [(n%4294967296),((n/4294967296)%4294967296)]),(iP 0)] _)]<|rQ (gY (canon false (val [(n%4294967296),((n/4294967296)%4294967296)]) 0)) (gY (je (n:Int))) (by rw[alO,show n%4294967296+4294967296*(n/4294967296%4294967296)=n by omega,By])) ah 
theorem afy:je 1=⟨false,1,0⟩:=by rw[show(1:Int)=((1:Nat):Int)from rfl,By];exact Nl
theorem Ke:gU 113 [iP 1] (gY ⟨false,1,0⟩):=by
 have:=Kf 1 ag;rwa[show((1:Nat):Int)=1 from rfl,afy]at this
theorem Gx(d:Dy)(p:Nat)(hd:d.ia)(il:8<=p)(ic:p<=512):gU 301 [(gY d),(iP p)] (.iw [(gY (jj d p false)),(iP (jz d p false))]):=by
 exact tr true Tryz.call301 Tryz.func301 (chain [.c (Jl d p false af ae ae)]<|.nil) ah 
theorem Gy(d:Dy)(p:Nat)(hd:d.ia)(il:8<=p)(ic:p<=512):gU 300 [(gY d),(iP p)] (.iw [(gY (jj d p true)),(iP (jz d p true))]):=by
 exact tr true Tryz.call300 Tryz.func300 (chain [.c (Jl d p true af ae ae)]<|.nil) ah 
theorem FA(d:Dy)(p:Nat)(up:Bool)(N:Nat)(h:(ix d p up N).2≠0):∀ k,ix d p up (N+k)=ix d p up N
 | 0=>rfl
 |k+1=>by
  have ih:=FA d p up N h k;show(if(ix d p up (N+k)).2≠0 then ix d p up (N+k)else _)=_;rw[ih,aR h]
theorem sw{d:Dy}{p:Nat}{up:Bool}{k:Nat}(h:(ix d p up k).2=0):ix d p up (k+1)=(jj (mq (ix d p up k).1 d) p up,jz (mq (ix d p up k).1 d) p up):=by
 show(if(ix d p up k).2≠0 then _ else _)=_;rw[aQ (not_not_intro h)];rfl
theorem Zy(d:Dy)(n p:Nat)(hd:d.ia)(hn:1<=n)(j8:n<=16)(il:8<=p)(ic:p<=512)(iH:∀ x,x<n-1->(ix d p false x).2=0):gU 299 [(gY d),(iP n),(iP p),(.fn 301 []),(.fn 92 [])] (.iw [gY (ix d p false (n-1)).1,iP (ix d p false (n-1)).2]):=by
 exact tr true Tryz.call299 Tryz.func299 (chain [.c (Gx _ _ af ae ae:gU 301 [(gY d),(iP p)] _),.s (Sp.jx (PI d n p) 0 (n-1) ae (fun x hx ke=>by
    have mo:=iH x ae;have hv:=um d (show 1<=p by omega) (show p<=4096 by omega) false x;exact iB (chain [tT 24 ((((x+1):Nat):Int)<(n:Int)) ae,tB 27 (by rw[mo];rfl:(((ix d p false x).2)==0)=true),.c (Jj ((ix d p false x).1) d p af af ae ae),
     iq ((((x+1):Nat):Int)+1) ae]<|.e (chain [.o 13 (.int (by rw[sw mo]):PV.le (.e (iP (jz (mq ((ix d p false x).1) d) p false))) (.e (iP ((ix d p false (x+1)).2)))),.b 12 (.iU (by rw[sw mo]):Bx.le (.cells 31 (jq (jj (mq ((ix d p false x).1) d) p false))) (.cells 31 (jq ((ix d p false (x+1)).1))))]<|.nil)) ah)
  (fun hx=>by
    exact iB (chain [tF 24 (((((n-1)+1):Nat):Int)<(n:Int)) ae]<|.nil) ah) ak:ju 3 Tryz.f299 (PI d n p 0) (.exit 0) ⟨41,true,[(13,.e (iP ((ix d p false (n-1)).2))),(12,.box 12 0),(10,.box 10 0)],[(12,.cells 31 (jq ((ix d p false (n-1)).1))),(10,.cells 31 [(bP false),(.v (.slice none 0 0)),(iP 0)])]⟩) (chain [.o 14 (.int rfl:PV.le (.e (iP 1)) (.e (iP (((0+1):Nat):Int)))),.o 13 (.int rfl:PV.le (.e (iP (jz d p false))) (.e (iP ((ix d p false 0).2)))),.b 12 (.iU rfl:Bx.le (.cells 31 (jq (jj d p false))) (.cells 31 (jq ((ix d p false 0).1))))]<|.nil)]<|.nil) ah 
theorem Zz(d:Dy)(n N p:Nat)(hd:d.ia)(hn:1<=n)(j8:n<=16)(il:8<=p)(ic:p<=512)(mG:N<n-1)(iH:∀ x,x<N->(ix d p false x).2=0)(hN:(ix d p false N).2≠0):gU 299 [(gY d),(iP n),(iP p),(.fn 301 []),(.fn 92 [])] (.iw [gY (ix d p false N).1,iP (ix d p false N).2]):=by
 exact tr true Tryz.call299 Tryz.func299 (chain [.c (Gx _ _ af ae ae:gU 301 [(gY d),(iP p)] _),.s (Sp.jx (PJ d n N p) 0 N ae (fun x hx ke=>by
    have mo:=iH x ae;have hv:=um d (show 1<=p by omega) (show p<=4096 by omega) false x;exact iB (chain [tT 24 ((((x+1):Nat):Int)<(n:Int)) ae,tB 27 (by rw[mo];rfl:(((ix d p false x).2)==0)=true),.c (Jj ((ix d p false x).1) d p af af ae ae),
     iq ((((x+1):Nat):Int)+1) ae]<|.e (chain [.o 13 (.int (by rw[sw mo]):PV.le (.e (iP (jz (mq ((ix d p false x).1) d) p false))) (.e (iP ((ix d p false (x+1)).2)))),.b 12 (.iU (by rw[sw mo]):Bx.le (.cells 31 (jq (jj (mq ((ix d p false x).1) d) p false))) (.cells 31 (jq ((ix d p false (x+1)).1))))]<|.nil)) ah)
  (fun hx=>by
    exact iB (chain [tT 24 ((((N+1):Nat):Int)<(n:Int)) ae,tB 27 (by simpa using hN:(((ix d p false N).2)==0)=false)]<|.nil) ah) ak:ju 3 Tryz.f299 (PJ d n N p 0) (.exit 0) ⟨41,true,[(13,.e (iP ((ix d p false N).2))),(12,.box 12 0),(10,.box 10 0)],[(12,.cells 31 (jq ((ix d p false N).1))),(10,.cells 31 [(bP false),(.v (.slice none 0 0)),(iP 0)])]⟩) (chain [.o 14 (.int rfl:PV.le (.e (iP 1)) (.e (iP (((0+1):Nat):Int)))),.o 13 (.int rfl:PV.le (.e (iP (jz d p false))) (.e (iP ((ix d p false 0).2)))),.b 12 (.iU rfl:Bx.le (.cells 31 (jq (jj d p false))) (.cells 31 (jq ((ix d p false 0).1))))]<|.nil)]<|.nil) ah 
theorem ZA(d:Dy)(n p:Nat)(hd:d.ia)(hn:1<=n)(j8:n<=16)(il:8<=p)(ic:p<=512):gU 299 [(gY d),(iP n),(iP p),(.fn 301 []),(.fn 92 [])] (.iw [gY (ix d p false (n-1)).1,iP (ix d p false (n-1)).2]):=by
 by_cases h:∃ x,x<n-1/\decide ((ix d p false x).2≠0)=true
 .obtain ⟨N,h1,h2,h3⟩:=qI h
  have hN:(ix d p false N).2≠0:=ct h2;have:=Zz d n N p hd hn j8 il ic h1 (fun x hx=>by simpa using h3 x hx) hN;have e:=FA d p false N hN (n-1-N);rw[show N+(n-1-N)=n-1 by omega]at e;rw[e];exact this
 .exact Zy d n p hd hn j8 il ic fun x hx=>bE fun q=>h ⟨x,hx,aS q⟩
theorem ZB(d:Dy)(n p:Nat)(hd:d.ia)(hn:1<=n)(j8:n<=16)(il:8<=p)(ic:p<=512)(iH:∀ x,x<n-1->(ix d p true x).2=0):gU 299 [(gY d),(iP n),(iP p),(.fn 300 []),(.fn 93 [])] (.iw [gY (ix d p true (n-1)).1,iP (ix d p true (n-1)).2]):=by
 exact tr true Tryz.call299 Tryz.func299 (chain [.c (Gy _ _ af ae ae:gU 300 [(gY d),(iP p)] _),.s (Sp.jx (PK d n p) 0 (n-1) ae (fun x hx ke=>by
    have mo:=iH x ae;have hv:=um d (show 1<=p by omega) (show p<=4096 by omega) true x;exact iB (chain [tT 24 ((((x+1):Nat):Int)<(n:Int)) ae,tB 27 (by rw[mo];rfl:(((ix d p true x).2)==0)=true),.c (Jk ((ix d p true x).1) d p af af ae ae),
     iq ((((x+1):Nat):Int)+1) ae]<|.e (chain [.o 13 (.int (by rw[sw mo]):PV.le (.e (iP (jz (mq ((ix d p true x).1) d) p true))) (.e (iP ((ix d p true (x+1)).2)))),.b 12 (.iU (by rw[sw mo]):Bx.le (.cells 31 (jq (jj (mq ((ix d p true x).1) d) p true))) (.cells 31 (jq ((ix d p true (x+1)).1))))]<|.nil)) ah)
  (fun hx=>by
    exact iB (chain [tF 24 (((((n-1)+1):Nat):Int)<(n:Int)) ae]<|.nil) ah) ak:ju 3 Tryz.f299 (PK d n p 0) (.exit 0) ⟨41,true,[(13,.e (iP ((ix d p true (n-1)).2))),(12,.box 12 0),(10,.box 10 0)],[(12,.cells 31 (jq ((ix d p true (n-1)).1))),(10,.cells 31 [(bP false),(.v (.slice none 0 0)),(iP 0)])]⟩) (chain [.o 14 (.int rfl:PV.le (.e (iP 1)) (.e (iP (((0+1):Nat):Int)))),.o 13 (.int rfl:PV.le (.e (iP (jz d p true))) (.e (iP ((ix d p true 0).2)))),.b 12 (.iU rfl:Bx.le (.cells 31 (jq (jj d p true))) (.cells 31 (jq ((ix d p true 0).1))))]<|.nil)]<|.nil) ah 
theorem ZC(d:Dy)(n N p:Nat)(hd:d.ia)(hn:1<=n)(j8:n<=16)(il:8<=p)(ic:p<=512)(mG:N<n-1)(iH:∀ x,x<N->(ix d p true x).2=0)(hN:(ix d p true N).2≠0):gU 299 [(gY d),(iP n),(iP p),(.fn 300 []),(.fn 93 [])] (.iw [gY (ix d p true N).1,iP (ix d p true N).2]):=by
 exact tr true Tryz.call299 Tryz.func299 (chain [.c (Gy _ _ af ae ae:gU 300 [(gY d),(iP p)] _),.s (Sp.jx (PL d n N p) 0 N ae (fun x hx ke=>by
    have mo:=iH x ae;have hv:=um d (show 1<=p by omega) (show p<=4096 by omega) true x;exact iB (chain [tT 24 ((((x+1):Nat):Int)<(n:Int)) ae,tB 27 (by rw[mo];rfl:(((ix d p true x).2)==0)=true),.c (Jk ((ix d p true x).1) d p af af ae ae),
     iq ((((x+1):Nat):Int)+1) ae]<|.e (chain [.o 13 (.int (by rw[sw mo]):PV.le (.e (iP (jz (mq ((ix d p true x).1) d) p true))) (.e (iP ((ix d p true (x+1)).2)))),.b 12 (.iU (by rw[sw mo]):Bx.le (.cells 31 (jq (jj (mq ((ix d p true x).1) d) p true))) (.cells 31 (jq ((ix d p true (x+1)).1))))]<|.nil)) ah)
  (fun hx=>by
    exact iB (chain [tT 24 ((((N+1):Nat):Int)<(n:Int)) ae,tB 27 (by simpa using hN:(((ix d p true N).2)==0)=false)]<|.nil) ah) ak:ju 3 Tryz.f299 (PL d n N p 0) (.exit 0) ⟨41,true,[(13,.e (iP ((ix d p true N).2))),(12,.box 12 0),(10,.box 10 0)],[(12,.cells 31 (jq ((ix d p true N).1))),(10,.cells 31 [(bP false),(.v (.slice none 0 0)),(iP 0)])]⟩) (chain [.o 14 (.int rfl:PV.le (.e (iP 1)) (.e (iP (((0+1):Nat):Int)))),.o 13 (.int rfl:PV.le (.e (iP (jz d p true))) (.e (iP ((ix d p true 0).2)))),.b 12 (.iU rfl:Bx.le (.cells 31 (jq (jj d p true))) (.cells 31 (jq ((ix d p true 0).1))))]<|.nil)]<|.nil) ah 
theorem ZD(d:Dy)(n p:Nat)(hd:d.ia)(hn:1<=n)(j8:n<=16)(il:8<=p)(ic:p<=512):gU 299 [(gY d),(iP n),(iP p),(.fn 300 []),(.fn 93 [])] (.iw [gY (ix d p true (n-1)).1,iP (ix d p true (n-1)).2]):=by
 by_cases h:∃ x,x<n-1/\decide ((ix d p true x).2≠0)=true
 .obtain ⟨N,h1,h2,h3⟩:=qI h
  have hN:(ix d p true N).2≠0:=ct h2;have:=ZC d n N p hd hn j8 il ic h1 (fun x hx=>by simpa using h3 x hx) hN;have e:=FA d p true N hN (n-1-N);rw[show N+(n-1-N)=n-1 by omega]at e;rw[e];exact this
 .exact ZB d n p hd hn j8 il ic fun x hx=>bE fun q=>h ⟨x,hx,aS q⟩
theorem Pw(d:Dy)(n p:Nat)(hd:d.ia)(h0:¬d.iJ<0)(hn:1<=n)(j8:n<=16)(il:8<=p)(ic:p<=512):gU 278 [(gY d),(iP n),(iP p),(bP false)] (.iw [gY (kQ d n p false).1,iP (kQ d n p false).2]):=by
 exact tr true Tryz.call278 Tryz.func278 (chain [.c (nU _ af:gU 35 [(gY d)] _),tB 14 (aT h0),.c (ZA _ _ _ af ae ae ae ae:gU 299 [(gY d),(iP n),(iP p),(.fn 301 []),(.fn 92 [])] _)]<|rQ (.iw [(gY ((ix d p false (n-1)).1)),(iP ((ix d p false (n-1)).2))]) (.iw [gY (kQ d n p false).1,iP (kQ d n p false).2]) (by unfold kQ;rw[aQ h0])) ah 
theorem Px(d:Dy)(n p:Nat)(hd:d.ia)(h0:¬d.iJ<0)(hn:1<=n)(j8:n<=16)(il:8<=p)(ic:p<=512):gU 278 [(gY d),(iP n),(iP p),(bP true)] (.iw [gY (kQ d n p true).1,iP (kQ d n p true).2]):=by
 exact tr true Tryz.call278 Tryz.func278 (chain [.c (nU _ af:gU 35 [(gY d)] _),tB 14 (aT h0),.c (ZD _ _ _ af ae ae ae ae:gU 299 [(gY d),(iP n),(iP p),(.fn 300 []),(.fn 93 [])] _)]<|rQ (.iw [(gY ((ix d p true (n-1)).1)),(iP ((ix d p true (n-1)).2))]) (.iw [gY (kQ d n p true).1,iP (kQ d n p true).2]) (by unfold kQ;rw[aQ h0])) ah 
theorem Xj{d:Dy}(h:d.iJ<0):¬(iF d).iJ<0:=by
 rw[(re _).2,oF];have:=(re d).2.1 h
 grind
theorem Zd(d:Dy)(n p:Nat)(hd:d.ia)(h0:¬d.iJ<0)(hn:1<=n)(j8:n<=16)(il:8<=p)(ic:p<=512):gU 278 [gY d,iP (n:Int),iP (p:Int),bP false] (.iw [gY (ix d p false (n-1)).1,iP (ix d p false (n-1)).2]):=by
 have:=Pw d n p hd h0 hn j8 il ic;unfold kQ at this;rwa[aQ h0]at this
theorem Ze(d:Dy)(n p:Nat)(hd:d.ia)(h0:¬d.iJ<0)(hn:1<=n)(j8:n<=16)(il:8<=p)(ic:p<=512):gU 278 [gY d,iP (n:Int),iP (p:Int),bP true] (.iw [gY (ix d p true (n-1)).1,iP (ix d p true (n-1)).2]):=by
 have:=Px d n p hd h0 hn j8 il ic;unfold kQ at this;rwa[aQ h0]at this
theorem Zb(d:Dy)(n p:Nat)(hd:d.ia)(h0:d.iJ<0)(hn:1<=n)(j8:n<=16)(il:8<=p)(ic:p<=512):gU 278 [(gY d),(iP n),(iP p),(bP false)] (.iw [gY (kQ d n p false).1,iP (kQ d n p false).2]):=by
 have EA:=qt hd;have h1:=Xj h0;have hv:=um (iF d) (show 1<=p by omega) (show p<=4096 by omega) true (n-1);exact tr true Tryz.call278 Tryz.func278 (chain [.c (nU _ af:gU 35 [(gY d)] _),tB 14 (aS h0),.c (xW _ af:gU 191 [(gY d)] _),.c (Ze _ _ _ EA h1 hn j8 il ic:gU 278 [(gY (iF d)),(iP n),(iP p),(bP true)] _),.c (xW _ af:gU 191 [(gY ((ix (iF d) p true (n-1)).1))] _)]<|rQ (.iw [(gY (iF ((ix (iF d) p true (n-1)).1))),(iP ((ix (iF d) p true (n-1)).2))]) (.iw [gY (kQ d n p false).1,iP (kQ d n p false).2]) (by unfold kQ;rw[aR h0];rfl)) ah 
theorem Py(d:Dy)(n p:Nat)(hd:d.ia)(hn:1<=n)(j8:n<=16)(il:8<=p)(ic:p<=512):gU 278 [gY d,iP (n:Int),iP (p:Int),bP false] (.iw [gY (kQ d n p false).1,iP (kQ d n p false).2]):=by
 by_cases h0:d.iJ<0
 .exact Zb d n p hd h0 hn j8 il ic
 .exact Pw d n p hd h0 hn j8 il ic
theorem Zc(d:Dy)(n p:Nat)(hd:d.ia)(h0:d.iJ<0)(hn:1<=n)(j8:n<=16)(il:8<=p)(ic:p<=512):gU 278 [(gY d),(iP n),(iP p),(bP true)] (.iw [gY (kQ d n p true).1,iP (kQ d n p true).2]):=by
 have EA:=qt hd;have h1:=Xj h0;have hv:=um (iF d) (show 1<=p by omega) (show p<=4096 by omega) false (n-1);exact tr true Tryz.call278 Tryz.func278 (chain [.c (nU _ af:gU 35 [(gY d)] _),tB 14 (aS h0),.c (xW _ af:gU 191 [(gY d)] _),.c (Zd _ _ _ EA h1 hn j8 il ic:gU 278 [(gY (iF d)),(iP n),(iP p),(bP false)] _),.c (xW _ af:gU 191 [(gY ((ix (iF d) p false (n-1)).1))] _)]<|rQ (.iw [(gY (iF ((ix (iF d) p false (n-1)).1))),(iP ((ix (iF d) p false (n-1)).2))]) (.iw [gY (kQ d n p true).1,iP (kQ d n p true).2]) (by unfold kQ;rw[aR h0];rfl)) ah 
theorem Pz(d:Dy)(n p:Nat)(hd:d.ia)(hn:1<=n)(j8:n<=16)(il:8<=p)(ic:p<=512):gU 278 [gY d,iP (n:Int),iP (p:Int),bP true] (.iw [gY (kQ d n p true).1,iP (kQ d n p true).2]):=by
 by_cases h0:d.iJ<0
 .exact Zc d n p hd h0 hn j8 il ic
 .exact Px d n p hd h0 hn j8 il ic
theorem ZE(x:Iv)(n p:Nat)(hx:x.ia)(ha:x.all=true)(hn:n<=16)(il:8<=p)(ic:p<=512):gU 241 [(gZ x),(iP n),(iP p)] (gZ (mi x n p)):=by
 exact tr true Tryz.call241 Tryz.func241 (chain [.o 12 (.e (mC _):PV.le (.e (.sl true 1 7 fun i_ j_=>(iZ x).getD (i_*7+j_) (.v (.bool false)))) (.e (ig [x]))),.c (pQ _ af:gU 86 [(ig [x])] _),tB 13 (by rw[ha];rfl:(!x.all)=false),.c nu]<|rQ (gZ ie) (gZ (mi x n p)) (by unfold mi;rw[aR ha])) ah 
theorem ZI(x:Iv)(n p:Nat)(hx:x.ia)(ha:x.all=false)(h0:n=0)(il:8<=p)(ic:p<=512):gU 241 [(gZ x),(iP n),(iP p)] (gZ (mi x n p)):=by
 have v1:=Df;exact tr true Tryz.call241 Tryz.func241 (chain [.o 12 (.e (mC _):PV.le (.e (.sl true 1 7 fun i_ j_=>(iZ x).getD (i_*7+j_) (.v (.bool false)))) (.e (ig [x]))),.c (pQ _ af:gU 86 [(ig [x])] _),tB 13 (by rw[ha];rfl:(!x.all)=true),.c (vf _:gU 87 [(iP p)] _),tB 17 (o0.2 ⟨ae,ae⟩:(lp (p:Int))=true),tF 22 ((n:Int)<0) ae,tF 26 (16<(n:Int)) ae,tB 30 (rX h0:((n:Int)==0)=true),.c (Ke:gU 113 [(iP 1)] _),.c (C4 (Dy.mk false 1 0) af)]<|rQ (gZ (mf (Dy.mk false 1 0))) (gZ (mi x n p)) (by unfold mi;rw[aQ (by rw[ha];decide),aR h0])) ah 
theorem ZF(x:Iv)(n p:Nat)(hx:x.ia)(ha:x.all=false)(h0:n≠0)(hn:n<=16)(he:n%2=0)(il:8<=p)(ic:p<=512):gU 241 [(gZ x),(iP n),(iP p)] (gZ (mi x n p)):=by
 have va:=DQ hx;obtain⟨w1,w2⟩:=va.ki;exact tr true Tryz.call241 Tryz.func241 (chain [.o 12 (.e (mC _):PV.le (.e (.sl true 1 7 fun i_ j_=>(iZ x).getD (i_*7+j_) (.v (.bool false)))) (.e (ig [x]))),.c (pQ _ af:gU 86 [(ig [x])] _),tB 13 (by rw[ha];rfl:(!x.all)=true),.c (vf _:gU 87 [(iP p)] _),tB 17 (o0.2 ⟨ae,ae⟩:(lp (p:Int))=true),tF 22 ((n:Int)<0) ae,tF 26 (16<(n:Int)) ae,tB 30 (nx h0:((n:Int)==0)=false),.a (ae:0<(2:Int)),.o 34 (.int (by rw[gH ae];omega):PV.le (.e (iP (Int.tmod (n:Int) 2))) (.e (iP (((n%2):Nat):Int)))),tB 35 (rX he:((((n%2):Nat):Int)==0)=true),.c (ME x af),.c (Py _ _ _ af ae ae ae ae:gU 278 [(gY ((iY x).lo)),(iP n),(iP p),(bP false)] _),.c (Pz _ _ _ af ae ae ae ae:gU 278 [(gY ((iY x).hi)),(iP n),(iP p),(bP true)] _),.c (BB ((kQ ((iY x).lo) n p false).1) ((kQ ((iY x).hi) n p true).1) ((kQ ((iY x).lo) n p false).2) ((kQ ((iY x).hi) n p true).2))]<|rQ (gZ (kE ((kQ ((iY x).lo) n p false).1) ((kQ ((iY x).lo) n p false).2) ((kQ ((iY x).hi) n p true).1) ((kQ ((iY x).hi) n p true).2))) (gZ (mi x n p)) (by unfold mi qu;rw[aQ (by rw[ha];decide),aQ h0,aR he])) ah 
theorem ZG(x:Iv)(n p:Nat)(hx:x.ia)(ha:x.all=false)(h0:n≠0)(hn:n<=16)(he:¬n%2=0)(il:8<=p)(ic:p<=512):gU 241 [(gZ x),(iP n),(iP p)] (gZ (mi x n p)):=by
 have va:=hx;obtain⟨w1,w2⟩:=va.ki;exact tr true Tryz.call241 Tryz.func241 (chain [.o 12 (.e (mC _):PV.le (.e (.sl true 1 7 fun i_ j_=>(iZ x).getD (i_*7+j_) (.v (.bool false)))) (.e (ig [x]))),.c (pQ _ af:gU 86 [(ig [x])] _),tB 13 (by rw[ha];rfl:(!x.all)=true),.c (vf _:gU 87 [(iP p)] _),tB 17 (o0.2 ⟨ae,ae⟩:(lp (p:Int))=true),tF 22 ((n:Int)<0) ae,tF 26 (16<(n:Int)) ae,tB 30 (nx h0:((n:Int)==0)=false),.a (ae:0<(2:Int)),.o 34 (.int (by rw[gH ae];omega):PV.le (.e (iP (Int.tmod (n:Int) 2))) (.e (iP (((n%2):Nat):Int)))),tB 35 (nx he:((((n%2):Nat):Int)==0)=false),.c (Py _ _ _ af ae ae ae ae:gU 278 [(gY x.lo),(iP n),(iP p),(bP false)] _),.c (Pz _ _ _ af ae ae ae ae:gU 278 [(gY x.hi),(iP n),(iP p),(bP true)] _),.c (BB ((kQ x.lo n p false).1) ((kQ x.hi n p true).1) ((kQ x.lo n p false).2) ((kQ x.hi n p true).2))]<|rQ (gZ (kE ((kQ x.lo n p false).1) ((kQ x.lo n p false).2) ((kQ x.hi n p true).1) ((kQ x.hi n p true).2))) (gZ (mi x n p)) (by unfold mi qu;rw[aQ (by rw[ha];decide),aQ h0,aQ he])) ah 
theorem ZH(x:Iv)(n p:Nat)(hx:x.ia)(hn:n<=16)(il:8<=p)(ic:p<=512):gU 241 [gZ x,iP (n:Int),iP (p:Int)] (gZ (mi x n p)):=by
 cases ha:x.all with
 |true=>exact ZE x n p hx ha hn il ic
 |false=>
  by_cases h0:n=0
  .exact ZI x n p hx ha h0 il ic
  .by_cases he:n%2=0
   .exact ZF x n p hx ha h0 hn he il ic
   .exact ZG x n p hx ha h0 hn he il ic
theorem Zm(x y:Iv)(hx:x.ia)(hy:y.ia)(xa:x.all=false)(ya:y.all=false):gU 158 [(gZ x),(gZ y)] (gZ (CX x y)):=by
 obtain⟨v1,v2⟩:=hx.ki;obtain⟨v3,v4⟩:=hy.ki;exact tr true Tryz.call158 Tryz.func158 (chain [.o 7 (.e (yF _ _):PV.le (.e (.sl true 2 7 fun i_ j_=>(iZ x++iZ y).getD (i_*7+j_) (.v (.bool false)))) (.e (ig [x,y]))),.c (yE _ _ af af:gU 86 [(ig [x,y])] _),tB 8 (by rw[xa,ya];rfl:(!(x.all||y.all))=true),.c (IJ x.lo y.lo af af),.c (IK x.hi y.hi af af)]<|rQ (gZ (Iv.mk (iV x.lo y.lo) (iR x.hi y.hi) false)) (gZ (CX x y)) (by unfold CX;rw[xa,ya];rfl)) ah 
theorem PQ(z:Int):(z==0)=decide (z=0):=by by_cases h:z=0<;>simp[h]
theorem Ki(x:Iv)(p:Nat)(hx:x.ia)(xa:x.all=false)(il:8<=p)(ic:p<=512):gU 160 [(gZ x),(iP p)] (.iw [gY (tG x p),bP (decide (AM x p=0))]):=by
 obtain⟨v1,v2⟩:=hx.ki;have v3:=qt v1;exact tr true Tryz.call160 Tryz.func160 (chain [.o 9 (.e (mC _):PV.le (.e (.sl true 1 7 fun i_ j_=>(iZ x).getD (i_*7+j_) (.v (.bool false)))) (.e (ig [x]))),.c (pQ _ af:gU 86 [(ig [x])] _),tB 10 (by rw[xa];rfl:(!x.all)=true),.c (vf _:gU 87 [(iP p)] _),tB 14 (o0.2 ⟨ae,ae⟩:(lp (p:Int))=true),.c (xW _ af:gU 191 [(gY x.lo)] _),.c (Wg x.hi (iF x.lo) p af af ae ae)]<|rQ (.iw [(gY (jj (iI x.hi (iF x.lo)) p true)),(bP ((jz (iI x.hi (iF x.lo)) p true)==0))]) (.iw [gY (tG x p),bP (decide (AM x p=0))]) (by rw[PQ];rfl)) ah 
theorem Gw(x y:Iv):pP x y=(y.all||(!x.all&&(decide (jo y.lo x.lo<=0)&&decide (jo x.hi y.hi<=0)))):=rfl
theorem Zn(x y:Iv)(hx:x.ia)(hy:y.ia):gU 63 [(gZ x),(gZ y)] (bP (pP x y)):=by
 obtain⟨v1,v2⟩:=hx.ki;obtain⟨v3,v4⟩:=hy.ki;exact tr true Tryz.call63 Tryz.func63 (chain [.c (qS x af),.c (qS y af)]<|.w (y.all=true)
  (fun k1=>chain [tB 14 (k1)]<|rQ (bP true) (bP (pP x y)) (by rw[Gw];simp[k1]))
  (fun k1=>chain [tB 14 (aM k1)]<|.w (x.all=true)
   (fun k2=>chain [tB 17 (k2)]<|rQ (bP false) (bP (pP x y)) (by rw[Gw];simp[k1,k2]))
   (fun k2=>chain [tB 17 (aM k2),.c (nT _ _ af af:gU 37 [(gY y.lo),(gY x.lo)] _)]<|.w ((jo y.lo x.lo)<=0)
    (fun k3=>chain [tB 25 (aS k3),.c (nT _ _ af af:gU 37 [(gY x.hi),(gY y.hi)] _)]<|rQ (bP (decide ((jo x.hi y.hi)<=0))) (bP (pP x y)) (by rw[Gw];simp[k1,k2,k3]))
    (fun k3=>chain [tB 25 (aT k3)]<|rQ (bP false) (bP (pP x y)) (by rw[Gw];simp[k1,k2,k3]))))) ah 
open Go.RowKit Fp Pu
theorem amj{α:Type}{l:List α}{i:Nat}{d:α}(h:i<l.length):l.getD i d=l[i]:=by
 rw[aW,bd h];rfl
theorem yG{T n n' k:Nat}{F:Nat->Iv}{y:Iv}(hn:n=k)(wk:n'=k+1)(hy:y=F k):
 Bx.le (.row true T (n+[y].length) 7 fun i j=>if i<n then kf ((List.range k).map F) i j else(E.mc (ig [y])) (i-n) j) (.row true T n' 7 (kf ((List.range (k+1)).map F))):=by
 subst hn wk hy;refine .row rfl fun i j hi hj=>⟨.iU ?_,C3 _ _ hj⟩
 have hi:i<n+1:=hi;by_cases h:i<n
 .rw [aR h]
  simp only[kf];rw[NM h,NM hi]
 .have oM:i=n:= ae 
  subst oM;rw[aQ h,cT];simp only[kf];rw[NM hi];rfl
theorem Ah{n:Nat}{M:List Iv}(hn:n=M.length):E.le (.sl true n 7 (kf M)) (ig M):=by subst hn;exact .refl _
open Go.RowKit Fp Pu
open Go.RowKit Fp Pu
theorem BJ(n:Nat)(h:n<4294967296):(jE (n:Int)).ia:=vt (MA n h)
open Go.RowKit Fp Pu
theorem aaT(m:Nat)(e:Int):(canon false m e).neg=false:=by unfold canon;split<;>rfl
theorem afs{c:Nat}(hc:0<c):(je (c:Int)).m≠0:=by
 rw[By];exact(AU (s:=false) (e:=0) ae).2.2.1
theorem ahb{c:Nat}(hc:0<c):lN (jE (c:Int))=1:=by
 unfold lN jE mf;simp only[bq,a6];rw[aR];unfold Dy.iJ;rw[aQ (afs hc),show(je (c:Int)).neg=false by rw[By];exact aaT _ _];simp
open Go.RowKit Fp Pu
open Go.RowKit Fp Pu
section
variable {m m':List (List Iv)} {h h':Iv} {n p:Nat}
theorem Nd(j:Nat)(hj:j<4294967296):(jE (j:Int)).ia:=vt (MA j hj)
end
theorem Vf(c:Nat):(jE (c:Int)).lo.q=(c:Rat)/\(jE (c:Int)).hi.q=(c:Rat)/\(jE (c:Int)).all=false:=by
 refine⟨?_,?_,rfl⟩
 .show (je _).q=_
  rw[xB];exact dK c
 .show (je _).q=_
  rw[xB];exact dK c
open Go.RowKit Fp Pu
theorem Ds(s:Bool)(m:Nat)(e:Int)(hl:(gV m).length<=3000)(kR:-1000000<=e)(kx:e<=1000000):gU 76 [bP s,gX (gV m),iP e] (gY (canon s m e)):=by
 refine⟨Tryz.call76,fun w B vs hK hB hr=>?_⟩;obtain⟨v1,vs,rfl,h1,hr⟩:=hr.lY;obtain⟨v2,vs,rfl,h2,hr⟩:=hr.lY;obtain⟨v3,vs,rfl,h3,hr⟩:=hr.lY;obtain rfl:=hr.qh;obtain rfl:=iG.kK h1;obtain rfl:=iG.kK h3;obtain⟨A,c,rfl,s1⟩:=uw (kA m) h2;have:=FL s A c (gV m) e w s1 hl kR kx;rw[jD]at this;exact this.mono fun e w' h=>rd B w e w' hB h
theorem yU(a:Dy)(ha:a.ia):gU 46 [gY a] (bP true):=xz Tryz.call46 (fun A c w h _=>ajl a A c w h ha) rv
theorem vw(a:Dy):gU 47 [gY a] (iP a.iJ):=xz Tryz.call47 (fun A c w h _=>ajh a A c w h) rv
theorem rZ(a:Dy):gU 99 [gY a] (gY (iF a)):=
 xz Tryz.call99 (fun A c w h _=>by
  have:=ai8 a.neg A c (gV a.m) a.e w h (vD _);rw[jD]at this;exact this) rd
theorem Jn(a:Dy)(ha:uF a):gU 97 [gY a] (iP a.iu):=xz Tryz.call97 (fun A c w h _=>ajk a A c w h ha) rv
theorem WE(n:Nat)(hn:n<4294967296):gU 81 [iP (n:Int)] (gY (canon false n 0)):=by
 refine⟨Tryz.call81,fun w B vs hK hB hr=>?_⟩;obtain⟨v1,vs,rfl,h1,hr⟩:=hr.lY;obtain rfl:=hr.qh;obtain rfl:=iG.kK h1;exact(ai5 n w hn).mono fun e w' h=>rd B w e w' hB h
end Go.Proofs.YtdgnpeddgdclhaaGreatDoor
namespace Go.Proofs.YtdgnpeddgdclhaaGreatDoor.Fp
theorem Ux(m k:Nat):kg (m/2^k*2^k) m=0↔m%2^k=0:=by
 have h1:=bT m (2^k);rw[a7]at h1;unfold kg;split
 .simp;omega
 .split
  .have:=cN m (2^k);omega
  .simp;omega
theorem QF{neg up more:Bool}{m p q:Nat}{e:Int}(hq:kC m e more p (neg != up)=q)(h:q=0\/¬16384<(ib q:Int)+e+ja m e p):jP neg m e more p up=canon neg q (e+ja m e p)/\jG neg m e more p up=0:=by
 have ho:lO m e more p (neg != up)=false:=by
  unfold lO;rw[hq];rcases h with h|h
  .simp [h]
  .simp [h]
 unfold jP jG;rw[ho,hq];simp
theorem QH{neg up more:Bool}{m p q:Nat}{e:Int}(hq:kC m e more p (neg != up)=q)(h0:q≠0)(h:16384<(ib q:Int)+e+ja m e p):
 ((neg != up)=true->jP neg m e more p up=jA/\jG neg m e more p up=9)/\((neg != up)=false->jP neg m e more p up=canon neg (2^p-1) (16384-p)/\jG neg m e more p up=0):=by
 have ho:lO m e more p (neg != up)=true:=by unfold lO;rw[hq];simp[h0,h]
 unfold jP jG;rw[ho];constructor
 .intro hn;rw[hn];exact⟨rfl,rfl⟩
 .intro hn;rw[hn];exact⟨rfl,rfl⟩
end Go.Proofs.YtdgnpeddgdclhaaGreatDoor.Fp
namespace Go.Proofs.YtdgnpeddgdclhaaGreatDoor
open Go.RowKit Fp Pu
theorem aje(d:Dy)(k:Int)(hd:d.ia)(oh:-32768<=k)(sO:k<=32768)(hr:mQ (canon d.neg d.m (d.e+k))):gU 31 [gY d,iP k] (.iw [gY (canon d.neg d.m (d.e+k)),iP 0]):=by
 refine⟨Tryz.call31,fun w B vs hK hB EH=>?_⟩;obtain⟨v1,vs,rfl,h1,EH⟩:=EH.lY;obtain⟨v2,vs,rfl,h2,EH⟩:=EH.lY;obtain rfl:=EH.qh;obtain⟨A,c,rfl,s1⟩:=G5 h1;obtain rfl:=iG.kK h2;have:=ajf d.neg A c (gV d.m) d.e k w s1 hd.vQ oh sO (by rw[jD];exact hr);rw[jD]at this;exact this.mono fun e w' h=>FK B w e w' hB h
theorem Qd{n:Int}{e:Int}:canon (je n).neg (je n).m ((je n).e+e)=kV n e:=by
 unfold je kV;by_cases h:n.natAbs=0
 .rw [h,Ci,Ci]
  show canon false 0 _=_;rw[Ci]
 .have h1:=D6 h
  rw[show canon (decide (n<0)) n.natAbs 0=⟨decide (n<0),n.natAbs/2^jO n.natAbs,0+(jO n.natAbs:Int)⟩by unfold canon;rw[aQ h]];show canon (decide (n<0)) (n.natAbs/2^jO n.natAbs) (0+(jO n.natAbs:Int)+e)=_;rw[<-Kz _ _ _ (jO n.natAbs),h1];congr 1;omega
theorem DY{n e:Int}(h1:n.natAbs<4294967296)(h2:-1000<=e)(h3:e<=1000):(kV n e).ia:=by
 refine⟨qP _ _ _,?_⟩;unfold kV;by_cases h0:n.natAbs=0
 .rw [h0,Ci];exact .inl rfl
 .have:=AU (s:=decide (n<0)) (e:=e) h0
  have hb:ib n.natAbs<=32:=kO.2 h1;obtain⟨h4,h5,h6,_⟩:=this;have:=mS h6;exact .inr ⟨ae,ae,ae,ae⟩
theorem si{n:Int}(h1:n.natAbs<4294967296):(je n).ia:=DY h1 ag ag 
theorem ai3(k:Nat)(w:World)(h0:0<k)(hn:k<4294967296):
 Calls Tryz.prog 81 #[.int .i64 (-(k:Int))] w (tI w (canon true k 0)):=by
 have hm:=vJ k ae;have u7:(k:Int)%4294967296=k:= ae ;rw[u7]at hm;have hd:(k:Int)/4294967296=0:= ae ;have iD:(-(k:Int))<0:= ae ;have LP:decide ((-(k:Int))<0)=true:=aS iD;have hu:IntKind.u64.wrap (-(k:Int))=18446744073709551616-k:=by rw[IntKind.wrap_u64];omega
 have hs:IntKind.u64.wrap (-(18446744073709551616-(k:Int)))=k:=by rw[IntKind.wrap_u64];omega
 have HC:=Lib.hid (fun(A:Option Addr) c w (h:Sl w A c [k,0])=>FL true A c [k,0] 0 w h aj ag ag);have hv:val [k,0]=k:= aj ;rw[hv]at HC;clear hv;generalize canon true k 0=d at *
 generalize hN:(-(k:Int))=N at *
 go_enter Tryz.func81,Tryz.ntmps81;go_wp2_with fail;refine(HC.out _ _ _ (Sl.JM _ _ aj _ _ k 0 rfl rfl hn ag)).mono ?_;rintro r w1 ⟨A1,c1,rfl,sQ,jc⟩;have jI:iy (w.alloc (.cells #[.bool false,.slice none 0 0,.int .i64 0] 31)) w1:=(iy.alloc _ _).trans jc;have bx:=(ji.new w false none 0 0 0).ext jI;have b0:=bx.c0;have b1:=bx.c1;have b2:=bx.c2;have f0:=bx.fr 0;have f1:=bx.fr 1;have f2:=bx.fr 2;go_wp2;exact sI rfl rfl rfl (bx.set _ _ _ _ _) rfl (bx.qw sQ _ _ _ _ _) (ji.ql ((iy.alloc _ _).trans jI) (aU _) _ _ _ _ _)
theorem TU(k:Nat)(h0:0<k):je (-(k:Int))=canon true k 0:=by
 unfold je kV;rw[aS (show(-(k:Int))<0 by omega),ff,dA]
theorem ai4(n:Int)(h:n.natAbs<4294967296):gU 81 [iP n] (gY (je n)):=by
 by_cases h0:0<=n
 .obtain ⟨k,rfl⟩:=dJ h0
  rw[By];exact WE k ae 
 .obtain ⟨k,rfl⟩:∃ k:Nat,n = -(k:Int):=⟨n.natAbs,ae⟩
  rw[TU k ae];refine⟨Tryz.call81,fun w B vs hK hB hr=>?_⟩;obtain⟨v1,vs,rfl,h1,hr⟩:=hr.lY;obtain rfl:=hr.qh;obtain rfl:=iG.kK h1;exact(ai3 k w ae ae).mono fun e w' h=>rd B w e w' hB h
open Go.RowKit Fp Pu
open Classical in
noncomputable def Fp.sU(d:Dy)(k:Int):Dy:=if mQ (canon d.neg d.m (d.e+k))then canon d.neg d.m (d.e+k)else jA
open Classical in
noncomputable def Fp.BZ(d:Dy)(k:Int):Int:=if mQ (canon d.neg d.m (d.e+k))then 0 else 9
theorem W3(d:Dy)(k:Int):(sU d k).ia:=by
 unfold sU;split
 .rename_i h;exact⟨qP _ _ _,h⟩
 .exact rD
noncomputable def Fp.mL(x:Iv)(k:Int):Iv:=if x.all then ie else kE (sU x.lo k) (BZ x.lo k) (sU x.hi k) (BZ x.hi k)
def Fp.qN(x:Iv):Iv:=if x.all then x else⟨iF (my x),my x,false⟩
def Fp.pT(n:Int):Dy:=canon false 1 n
theorem vj{n:Int}(h:n.natAbs<4294967296):(jE n).ia:=vt (si h)
theorem Ce{x:Iv}(hx:x.ia):(qN x).ia:=by
 unfold qN;cases ky:x.all
 .have he:=hx.ki
  have hm:=IT he.1 he.2;simp only[bq,a6];refine .inr ⟨rfl,qt hm,hm,?_⟩;show jo (iF (my x)) (my x)<=0;rw[pU,oF];obtain⟨a1,a2,_⟩:=BF hx.q;have:=hx.q
  grind
 .exact hx
theorem aj1{d:Dy}{k:Int}(h:BZ d k=0):sU d k=canon d.neg d.m (d.e+k):=by
 unfold BZ at h;unfold sU;split at h
 .rename_i h1;rw[aR h1]
 .cases h
theorem AE{d:Dy}{k:Int}(h:BZ d k=0):(sU d k).q=d.q*P2 k:=by
 rw[aj1 h,qL,qv d,qn];cases d.neg<;>simp<;>grind
theorem Jv{x:Iv}(hx:x.ia)(k:Int):(mL x k).ia:=by
 unfold mL;split
 .exact mj
 .unfold kE
  split
  .exact mj
  .rename_i h
   refine .inr ⟨rfl,W3 _ _,W3 _ _,?_⟩;rw[pU,AE ae,AE ae,vi];exact hx.q
theorem Od{x:Iv}{r:Rat}(h:x.jY r)(k:Int):(mL x k).jY (r*P2 k):=by
 unfold mL;split
 .exact .inl rfl
 .rename_i ha
  unfold kE;split
  .exact .inl rfl
  .obtain ⟨h1,h2⟩:=h.ki (by simpa using ha)
   refine .inr ⟨?_,?_⟩
   .show (sU x.lo k).q<=_
    rw[AE ae,vi];exact h1
   .show _<=(sU x.hi k).q
    rw[AE ae,vi];exact h2
open Go.RowKit Fp Pu
theorem abN(k:Nat)(w:World)(h0:0<k)(hn:k<4294967296)(kp:Tb w):
 Calls Tryz.prog 113 #[.int .i64 (-(k:Int))] w (tI w (canon true k 0)):=by
 have hd:(k:Int)/4294967296=0:= ae ;have iD:(-(k:Int))<0:= ae ;have LP:decide ((-(k:Int))<0)=true:=aS iD;have hu:IntKind.u64.wrap (-(k:Int))=18446744073709551616-k:=by rw[IntKind.wrap_u64];omega
 have hs:IntKind.u64.wrap (-(18446744073709551616-(k:Int)))=k:=by rw[IntKind.wrap_u64];omega
 have Hp:IntKind.u32.wrap (k:Int)=k:=by rw[IntKind.wrap_u32];omega
 have ht:(ik [k,0]).length<=256:=by have:=oH [k,0];unfold lV at this;simp at this;omega
 have HC:=Lib.hid (fun(A:Option Addr) c w (h:Sl w A c [k,0]) (hT:Tb w)=>G4 true A c [k,0] 0 w h aj ht ag ag hT);have hv:val [k,0]=k:= aj ;rw[hv]at HC;clear hv ht;generalize canon true k 0=d at *
 generalize hN:(-(k:Int))=N at *
 go_enter Tryz.func113,Tryz.ntmps113;go_wp2_with fail;refine(HC.out _ _ _ (Sl.JM _ _ aj _ _ k 0 rfl rfl hn ag) (kp.below (by first|exact(iy.alloc _ _).trans (iy.alloc _ _)|exact iy.alloc _ _))).mono ?_;rintro r w1 ⟨A1,c1,rfl,sQ,jc⟩;have jI:iy (w.alloc (.cells #[.bool false,.slice none 0 0,.int .i64 0] 31)) w1:=(iy.alloc _ _).trans jc;have bx:=(ji.new w false none 0 0 0).ext jI;have b0:=bx.c0;have b1:=bx.c1;have b2:=bx.c2;have f0:=bx.fr 0;have f1:=bx.fr 1;have f2:=bx.fr 2;go_wp2;exact sI rfl rfl rfl (bx.set _ _ _ _ _) rfl (bx.qw sQ _ _ _ _ _) (ji.ql ((iy.alloc _ _).trans jI) (aU _) _ _ _ _ _)
theorem qO(n:Int)(h:n.natAbs<4294967296):gU 113 [iP n] (gY (je n)):=by
 by_cases h0:0<=n
 .obtain ⟨k,rfl⟩:=dJ h0
  exact Kf k ae 
 .obtain ⟨k,rfl⟩:∃ k:Nat,n = -(k:Int):=⟨n.natAbs,ae⟩
  rw[TU k ae];refine⟨Tryz.call113,fun w B vs hK hB hr=>?_⟩;obtain⟨v1,vs,rfl,h1,hr⟩:=hr.lY;obtain rfl:=hr.qh;obtain rfl:=iG.kK h1;exact(abN k w ae ae hK).mono fun e w' h=>rd B w e w' hB h
theorem ajZ(d:Dy)(k:Int):kB (canon d.neg d.m (d.e+k))=sU d k:=by unfold kB sU;split<;>simp_all
theorem aj0(d:Dy)(k:Int):mJ (canon d.neg d.m (d.e+k))=BZ d k:=by unfold mJ BZ;split<;>simp_all
open Go.RowKit Fp Pu
def iL(f:Nat->Rat):Nat->Rat
 | 0=>0
 |n+1=>iL f n+f n
theorem qm{f g:Nat->Rat}:∀ n,(∀ i,i<n->f i=g i)->iL f n=iL g n
 | 0,_=>rfl
 |n+1,h=>by rw[iL,iL,qm n (fun i hi=>h i ae),h n ae]
theorem B4{f g:Nat->Rat}:∀ n,(∀ i,i<n->f i<=g i)->iL f n<=iL g n
 | 0,_=>b9
 |n+1,h=>by
  have h1:=B4 n (fun i hi=>h i ae);have h2:=h n ae;rw[iL,iL];grind
theorem B5{f:Nat->Rat}(n:Nat)(h:∀ i,i<n->0<=f i):0<=iL f n:=by
 induction n with
 |zero=>exact b9
 |succ n ih=>
  have h1:=ih (fun i hi=>h i ae);have h2:=h n ae;rw[iL];grind
theorem AJ(f:Nat->Rat)(c:Rat):∀ n,iL (fun i=>c*f i) n=c*iL f n
 | 0=>by simp[iL]
 |n+1=>by rw[iL,iL,AJ f c n];grind
theorem DF(f:Nat->Rat)(c:Rat):∀ n,iL (fun i=>f i*c) n=iL f n*c
 | 0=>by simp[iL]
 |n+1=>by rw[iL,iL,DF f c n];grind
theorem FW(f g:Nat->Rat):∀ n,iL (fun i=>f i+g i) n=iL f n+iL g n
 | 0=>by simp only[iL];grind
 |n+1=>by rw[iL,iL,iL,FW f g n];grind
theorem FX(f:Nat->Nat->Rat)(m:Nat):∀ n,iL (fun i=>iL (fun j=>f i j) m) n=iL (fun j=>iL (fun i=>f i j) n) m
 | 0=>by
  have:∀ m,iL (fun _=>(0:Rat)) m=0:=by
   intro m
   induction m with
   |zero=>rfl
   |succ m ih=>rw[iL,ih];grind
  exact(this m).symm
 |n+1=>by
  rw[iL,FX f m n,<-FW];rfl
theorem XH(f:Nat->Rat):∀ n,iL f (n+1)=f 0+iL (fun i=>f (i+1)) n
 | 0=>by simp only[iL];grind
 |n+1=>by rw[iL,XH f n,iL];grind
def jd(x:Rat):Rat:=if 0<=x then x else -x
theorem mN(x:Rat):0<=jd x/\x<=jd x /\ -x<=jd x/\(jd x=x/\0<=x\/jd x = -x/\x<=0):=by unfold jd;split<;>grind
theorem xM{x b:Rat}(h1:x<=b)(h2:-x<=b):jd x<=b:=by unfold jd;split<;>grind
theorem O9(x y:Rat):jd (x+y)<=jd x+jd y:=by
 obtain⟨a1,a2,a3,_⟩:=mN x;obtain⟨b1,b2,b3,_⟩:=mN y;exact xM aq aq 
theorem xN(x y:Rat):jd (x*y)=jd x*jd y:=by
 obtain⟨_,_,_,a⟩:=mN x;obtain⟨_,_,_,b⟩:=mN y;obtain⟨c1,_,_,c⟩:=mN (x*y);rcases a with⟨e1,h1⟩|⟨e1,h1⟩<;>rcases b with⟨e2,h2⟩|⟨e2,h2⟩<;>rw[e1,e2]
 .have:=bM h1 h2;grind
 .have:=bM h1 (show 0 <= -y by grind);grind
 .have:=bM (show 0 <= -x by grind) h2;grind
 .have:=bM (show 0 <= -x by grind) (show 0 <= -y by grind);grind
theorem Ca(f:Nat->Rat):∀ n,jd (iL f n)<=iL (fun i=>jd (f i)) n
 | 0=>by simp[iL,jd]
 |n+1=>by
  have h1:=Ca f n;have h2:=O9 (iL f n) (f n);rw[iL,iL];grind
theorem Pa:jd 0=0:=rfl
abbrev QM:=Nat->Nat->Rat
def qs(n:Nat)(A B:QM):QM:=fun i j=>iL (fun q=>A i q*B q j) n
def xx:QM:=fun i j=>if i=j then 1 else 0
def TQ(n:Nat)(M:QM)(t:Rat):Nat->QM
 | 0=>xx
 |j+1=>fun i l=>t/((j+1:Nat):Rat)*qs n (TQ n M t j) M i l
def SQ(n:Nat)(M:QM)(t:Rat):Nat->QM
 | 0=>xx
 |j+1=>fun i l=>SQ n M t j i l+TQ n M t (j+1) i l
theorem Vg(j:Nat):(jE (j:Int)).jY ((j:Nat):Rat):=by have:=yP (j:Int);rwa[dK]at this
section
variable {m:List (List Iv)} {h:Iv} {M:QM} {t:Rat} {n p:Nat}
def zi(n:Nat)(A:QM)(b:Rat):Prop:=∀ i,i<n->iL (fun l=>jd (A i l)) n<=b
theorem ajK{A B:QM}{a b:Rat}(_h0:0<=a)(hb:0<=b)(h1:zi n A a)(h2:zi n B b):zi n (qs n A B) (a*b):=by
 intro i hi;have e1:iL (fun l=>jd (qs n A B i l)) n<=iL (fun l=>iL (fun q=>jd (A i q)*jd (B q l)) n) n:=
  B4 n fun l _=>by
   have:=Ca (fun q=>A i q*B q l) n;rw[show(fun q=>jd (A i q*B q l))=fun q=>jd (A i q)*jd (B q l)from funext fun q=>xN _ _]at this;exact this
 rw[FX]at e1;have e2:iL (fun q=>iL (fun l=>jd (A i q)*jd (B q l)) n) n<=iL (fun q=>jd (A i q)*b) n:=
  B4 n fun q hq=>by
   rw[AJ];exact cB (h2 q hq) (mN _).1
 rw[DF]at e2;exact bG e1 (bG e2 (b8 (h1 i hi) hb))
def eQ(c:Rat):Nat->Rat
 | 0=>1
 |j+1=>eQ c j*(c/((j+1:Nat):Rat))
theorem Al(j:Nat):(0:Rat)<((j+1:Nat):Rat):=fl.2 ae 
theorem QS{a b:Rat}(h1:0<=a)(h2:0<b):0<=a/b:=by
 rw[cA];exact bM h1 (bB (fp.2 h2))
theorem uQ{c:Rat}(h:0<=c):∀ j,0<=eQ c j
 | 0=>by simp only[eQ];decide
 |j+1=>bM (uQ h j) (QS h (Al j))
theorem akJ(n i:Nat):iL (fun l=>jd (xx i l)) n<=1/\(n<=i->iL (fun l=>jd (xx i l)) n=0):=by
 induction n with
 |zero=>exact⟨by simp only[iL];grind,fun _=>rfl⟩
 |succ n ih=>
  have e1:jd 1=1:= ag ;simp only[iL,xx]at ih ⊢;by_cases h:i=n
  .have:=ih.2 ae 
   rw[this,aR h,e1];exact⟨aq,fun h'=>absurd h' ae⟩
  .rw [aQ h,Pa,Rat.add_zero]
   exact⟨ih.1,fun h'=>ih.2 ae⟩
theorem ajH{A:QM}{b:Rat}(h:zi n A b){i l:Nat}(hi:i<n)(hl:l<n):jd (A i l)<=b:=by
 have h1:=h i hi;have:∀ m,l<m->jd (A i l)<=iL (fun l=>jd (A i l)) m:=by
  intro m hm
  induction m with
  |zero=>omega
  |succ m ih=>
   rw[iL];have h0:=B5 m (f:=fun l=>jd (A i l)) fun i _=>(mN _).1
   have h2:=(mN (A i m)).1;by_cases hq:l=m
   .subst hq;grind
   .have:=ih ae;grind
 exact bG (this n hl) h1
end
open Go.RowKit Fp Pu
theorem JG(g:Nat->Nat->Rat):∀ m,iL (fun j=>iL (g j) (m-j)) m=iL (fun s=>iL (fun j=>g j (s-j)) (s+1)) m
 | 0=>rfl
 |m+1=>by
  have ih:=JG g m;have e1:iL (fun j=>iL (g j) (m+1-j)) m=iL (fun j=>iL (g j) (m-j)+g j (m-j)) m:=
   qm m fun j hj=>by rw[show m+1-j=m-j+1 by omega];rfl
  have h1:iL (g m) (m+1-m)=g m 0:=by
   rw[show m+1-m=0+1 by omega];simp only[iL];grind
  have h2:iL (fun j=>g j (m-j)) (m+1)=iL (fun j=>g j (m-j)) m+g m (m-m):=rfl;show iL (fun j=>iL (g j) (m+1-j)) m+iL (g m) (m+1-m)=iL (fun s=>iL (fun j=>g j (s-j)) (s+1)) m+iL (fun j=>g j (m-j)) (m+1);rw[e1,FW,h1,h2,ih,cT]
  grind
theorem FY{f:Nat->Rat}(h:∀ i,0<=f i){m k:Nat}(hk:m<=k):iL f m<=iL f k:=by
 induction k with
 |zero=>
  have:m=0:= ae ;rw[this];exact b9
 |succ k ih=>
  by_cases hm:m=k+1
  .rw [hm];exact b9
  .have:=ih ae 
   have:=h k;rw[iL];grind
theorem DG(f:Nat->Rat)(m:Nat):∀ d,iL f (m+d)=iL f m+iL (fun i=>f (m+i)) d
 | 0=>by simp only[iL,bt];grind
 |d+1=>by
  show iL f (m+d)+f (m+d)=_;rw[DG f m d,iL];grind
theorem G8(c:Rat)(j:Nat):eQ c (j+1)*((j+1:Nat):Rat)=c*eQ c j:=by
 have h:c/((j+1:Nat):Rat)*((j+1:Nat):Rat)=c:=dm (by have:=Al j;grind);simp only[eQ];grind
theorem GC(a b:Rat):∀ s,iL (fun j=>eQ b j*eQ a (s-j)) (s+1)=eQ (a+b) s
 | 0=>by
  show 0+eQ b 0*eQ a 0=1;simp only[eQ];grind
 |s+1=>by
  have ih:=GC a b s;have hp:=Al s;have key:iL (fun j=>eQ b j*eQ a (s+1-j)) (s+2)*((s+1:Nat):Rat)=(a+b)*eQ (a+b) s:=by
   have e0:iL (fun j=>eQ b j*eQ a (s+1-j)) (s+2)*((s+1:Nat):Rat)=iL (fun j=>(j:Rat)*(eQ b j*eQ a (s+1-j))+eQ b j*(((s+1-j:Nat):Rat)*eQ a (s+1-j))) (s+2):=by
    rw[<-DF];refine qm _ fun j hj=>?_
    have:((s+1:Nat):Rat)=(j:Rat)+((s+1-j:Nat):Rat):=by rw[<-dM];congr 1;omega
    rw[this];grind
   rw[e0,FW];have e1:iL (fun j=>(j:Rat)*(eQ b j*eQ a (s+1-j))) (s+2)=b*eQ (a+b) s:=by
    rw[XH,<-ih,<-AJ];have z:(((0:Nat):Rat))=0:=rfl;rw[z,gE,Rat.zero_add];refine qm _ fun j hj=>?_
    have h1:=G8 b j;rw[show s+1-(j+1)=s-j by omega]
    grind
   have e2:iL (fun j=>eQ b j*(((s+1-j:Nat):Rat)*eQ a (s+1-j))) (s+2)=a*eQ (a+b) s:=by
    rw[show s+2=(s+1)+1 by omega,iL,cT,<-ih,<-AJ];have z:(((0:Nat):Rat))=0:=rfl;rw[z,gE,Rat.mul_zero,Rat.add_zero];refine qm _ fun j hj=>?_
    have h1:=G8 a (s-j);rw[show s+1-j=s-j+1 by omega]
    grind
   rw[e1,e2];grind
  have h2:=G8 (a+b) s;have h3:iL (fun j=>eQ b j*eQ a (s+1-j)) (s+2)*((s+1:Nat):Rat)=eQ (a+b) (s+1)*((s+1:Nat):Rat):=by rw[key,h2]
  exact dN (ew (by rw[h3];exact b9) hp) (ew (by rw[h3];exact b9) hp)
theorem D9(c:Rat):∀ j,jd (eQ c j)=eQ (jd c) j
 | 0=>by simp only[eQ];decide
 |j+1=>by
  simp only[eQ];rw[xN,D9 c j];congr 1;rw[cA,cA,xN];congr 1;have:=fp.2 (Al j);unfold jd;rw[aR (bB this)]
def uk(v:Rat):Nat->Rat
 | 0=>1
 |j+1=>uk v j*v
theorem VA(v:Rat)(i:Nat):∀ j,uk v (i+j)=uk v i*uk v j
 | 0=>by simp only[uk,bt];grind
 |j+1=>by
  show uk v (i+j)*v=_;rw[VA v i j,uk];grind
theorem VB{v:Rat}(h:0<=v):∀ j,0<=uk v j
 | 0=>by simp only[uk];decide
 |j+1=>bM (VB h j) h
theorem KX(c v:Rat):∀ j,eQ (c*v) j=eQ c j*uk v j
 | 0=>by simp only[eQ,uk];grind
 |j+1=>by
  simp only[eQ,uk];rw[KX c v j];simp only[cA];grind
theorem Po(q:Rat):∃ n:Nat,q<=(n:Rat):=by
 refine⟨q.ceil.toNat,?_⟩;have h1:q<=(q.ceil:Rat):=Rat.le_ceil;have h2:((q.ceil:Int):Rat)<=((q.ceil.toNat:Nat):Rat):=by
  rw[<-dK,fL];omega
 exact bG h1 h2
theorem OB{z:Rat}{J:Nat}(hz:0<=z)(hJ:z*2<=(J:Rat)){m:Nat}(hm:J<=m):eQ z (m+1)*2<=eQ z m:=by
 have h0:=uQ hz m;have h1:=G8 z m;have hp:=Al m;have Lt:z*2<=((m+1:Nat):Rat):=bG hJ (cX.2 ae);apply ew (c:=((m+1:Nat):Rat)) _ hp;have h2:=cB Lt h0
 grind
theorem OC{z:Rat}{J:Nat}(hz:0<=z)(hJ:z*2<=(J:Rat)){m:Nat}(hm:J<=m):∀ d,iL (fun i=>eQ z (m+i)) d+eQ z (m+d)*2<=eQ z m*2
 | 0=>by simp only[iL,bt];grind
 |d+1=>by
  have ih:=OC hz hJ hm d;have h1:=OB hz hJ (show J<=m+d by omega);rw[iL,show m+(d+1)=m+d+1 by omega]
  grind
theorem XM{z:Rat}{J:Nat}(hz:0<=z)(hJ:z*2<=(J:Rat)):∀ r:Nat,eQ z (J+r)*((2^r:Nat):Rat)<=eQ z J
 | 0=> aj 
 |r+1=>by
  have ih:=XM hz hJ r;have h1:=OB hz hJ (show J<=J+r by omega);have hp:(0:Rat)<=((2^r:Nat):Rat):=cF;have h2:=b8 h1 hp;rw[show(2^(r+1):Nat)=2^r*2 from aZ _ _,cO,show J+(r+1)=J+r+1 by omega];have e:((2:Nat):Rat)=2:=rfl;rw[e];grind
theorem XN{z ε:Rat}(hz:0<=z)(hε:0<ε):∃ m0,∀ m,m0<=m->∀ d,iL (fun i=>eQ z (m+i)) d<=ε:=by
 obtain⟨J,hJ⟩:=Po (z*2);obtain⟨r,hr⟩:=Po (eQ z J*2/ε);refine⟨J+r,fun m hm d=>?_⟩;obtain⟨t,rfl⟩:∃ t,m=J+t:=⟨m-J,ae⟩
 have h1:=OC hz hJ (show J<=J+t by omega) d;have h2:=XM hz hJ t;have h3:=uQ hz (J+t+d);have h4:=uQ hz (J+t);have sf:(r:Rat)<=((2^t:Nat):Rat):=cX.2 (cW (bQ (show r<=t by omega) Nat.lt_two_pow_self));have h5:eQ z J*2<=ε*((2^t:Nat):Rat):=by
  have h6:eQ z J*2/ε*ε=eQ z J*2:=dm aq;have h7:=b8 (bG hr sf) (bB hε)
  grind
 have hp:(0:Rat)<((2^t:Nat):Rat):=fl.2 (aY ag);have h8:eQ z (J+t)*2<=ε:=by
  apply ew (c:=((2^t:Nat):Rat)) _ hp
  grind
 grind
def MP(n:Nat)(M:QM):Nat->QM
 | 0=>xx
 |j+1=>qs n (MP n M j) M
section
variable {n:Nat} {M:QM}
theorem J5(t:Rat):∀ j i l,TQ n M t j i l=eQ t j*MP n M j i l
 | 0,i,l=>by simp only[TQ,eQ,MP];grind
 |j+1,i,l=>by
  show t/((j+1:Nat):Rat)*iL (fun q=>TQ n M t j i q*M q l) n=eQ t j*(t/((j+1:Nat):Rat))*iL (fun q=>MP n M j i q*M q l) n;rw[qm n fun q _=>show TQ n M t j i q*M q l=eQ t j*(MP n M j i q*M q l)by rw[J5 t j i q];grind,AJ]
  grind
theorem DO(t:Rat)(i l:Nat):∀ N,SQ n M t N i l=iL (fun j=>eQ t j*MP n M j i l) (N+1)
 | 0=>by simp only[SQ,iL,eQ,MP];grind
 |N+1=>by
  show SQ n M t N i l+TQ n M t (N+1) i l=_;rw[DO t i l N,J5];rfl
theorem agE(A:QM)(i:Nat){l:Nat}(hl:l<n):qs n A xx i l=A i l:=by
 have:∀ m,iL (fun q=>A i q*xx q l) m=if l<m then A i l else 0:=by
  intro m
  induction m with
  |zero=>simp[iL]
  |succ m ih=>
   rw[iL,ih];unfold xx;by_cases h1:l<m
   .rw [aR h1,aQ (show ¬m=l by omega),aR (show l<m+1 by omega)];grind
   .by_cases h2:m=l
    .subst h2;rw[aQ h1,aR rfl,aR (show m<m+1 by omega)];grind
    .rw [aQ h1,aQ h2,aQ (show ¬l<m+1 by omega)];grind
 unfold qs;rw[this,aR hl]
theorem agD(A B C:QM)(i l:Nat):qs n A (qs n B C) i l=qs n (qs n A B) C i l:=by
 unfold qs;have e1:∀ q,A i q*iL (fun r=>B q r*C r l) n=iL (fun r=>A i q*(B q r*C r l)) n:=fun q=>(AJ _ _ n).symm
 have e2:∀ r,iL (fun q=>A i q*B q r) n*C r l=iL (fun q=>A i q*B q r*C r l) n:=fun r=>(DF _ _ n).symm
 rw[qm n fun q _=>e1 q,qm (f:=fun q=>iL (fun q_1=>A i q_1*B q_1 q) n*C q l) n fun r _=>e2 r,FX];exact qm n fun r _=>qm n fun q _=> aq 
theorem OU(j:Nat):∀ k i l,l<n->qs n (MP n M j) (MP n M k) i l=MP n M (j+k) i l
 | 0,i,l,hl=>agE _ i hl
 |k+1,i,l,hl=>by
  show qs n (MP n M j) (qs n (MP n M k) M) i l=qs n (MP n M (j+k)) M i l;rw[agD];exact qm n fun q hq=>by rw[OU j k i q hq]
theorem OV{v:Rat}(hv:0<=v)(h:zi n M v):∀ j,zi n (MP n M j) (uk v j)
 | 0=>fun i _=>(akJ n i).1
 |j+1=>ajK (VB hv j) hv (OV hv h j) h
theorem ajI(n:Nat)(M:QM):∃ v,0<=v/\zi n M v:=by
 refine⟨iL (fun i=>iL (fun l=>jd (M i l)) n) n,B5 n fun i _=>B5 n fun l _=>(mN _).1,fun i hi=>?_⟩;have:∀ m,i<m->iL (fun l=>jd (M i l)) n<=iL (fun i=>iL (fun l=>jd (M i l)) n) m:=by
  intro m hm
  induction m with
  |zero=>omega
  |succ m ih=>
   rw[iL];have h0:0<=iL (fun l=>jd (M m l)) n:=B5 n fun l _=>(mN _).1
   have h1:0<=iL (fun i=>iL (fun l=>jd (M i l)) n) m:=B5 m fun i _=>B5 n fun l _=>(mN _).1
   by_cases hq:i=m
   .subst hq;grind
   .have:=ih ae;grind
 exact this n hi
theorem ahE(a b:Rat)(N:Nat)(i:Nat){l:Nat}(hl:l<n):qs n (SQ n M b N) (SQ n M a N) i l=iL (fun j=>iL (fun k=>eQ b j*eQ a k*MP n M (j+k) i l) (N+1)) (N+1):=by
 unfold qs;have e1:∀ q,SQ n M b N i q*SQ n M a N q l=iL (fun j=>iL (fun k=>eQ b j*eQ a k*(MP n M j i q*MP n M k q l)) (N+1)) (N+1):=by
  intro q;rw[DO,DO,<-DF];refine qm _ fun j _=>?_
  rw[<-AJ];exact qm _ fun k _=> aq 
 rw[qm n fun q _=>e1 q,FX];refine qm _ fun j _=>?_
 rw[FX];refine qm _ fun k _=>?_
 rw[<-OU j k i l hl,AJ];rfl
theorem alk(a b:Rat)(N:Nat)(i l:Nat):iL (fun j=>iL (fun k=>eQ b j*eQ a k*MP n M (j+k) i l) (N+1-j)) (N+1)=SQ n M (a+b) N i l:=by
 rw[JG (fun j k=>eQ b j*eQ a k*MP n M (j+k) i l),DO];refine qm _ fun s _=>?_
 rw[<-GC,<-DF];exact qm _ fun j hj=>by rw[show j+(s-j)=s by omega]
theorem Xw(g:Nat->Nat->Rat)(m:Nat):iL (fun j=>iL (g j) m) m=iL (fun j=>iL (g j) (m-j)) m+iL (fun j=>iL (fun k=>g j (m-j+k)) j) m:=by
 rw[<-FW];refine qm _ fun j hj=>?_
 rw[<-DG,show m-j+j=m by omega]
theorem adW{v:Rat}(hv:0<=v)(h:zi n M v)(a b:Rat)(N:Nat){i l:Nat}(hi:i<n)(hl:l<n):
 jd (qs n (SQ n M b N) (SQ n M a N) i l-SQ n M (a+b) N i l)<=iL (fun s=>eQ (jd a*v+jd b*v) (N+1+s)) (N+1):=by
 have hx:0<=jd a*v:=bM (mN a).1 hv;have hy:0<=jd b*v:=bM (mN b).1 hv;have e1:qs n (SQ n M b N) (SQ n M a N) i l=SQ n M (a+b) N i l+iL (fun j=>iL (fun k=>eQ b j*eQ a (N+1-j+k)*MP n M (j+(N+1-j+k)) i l) j) (N+1):=by
  have:=Xw (fun j k=>eQ b j*eQ a k*MP n M (j+k) i l) (N+1);rw[alk,<-ahE a b N i hl]at this;exact this
 have e2:qs n (SQ n M b N) (SQ n M a N) i l-SQ n M (a+b) N i l=iL (fun j=>iL (fun k=>eQ b j*eQ a (N+1-j+k)*MP n M (j+(N+1-j+k)) i l) j) (N+1):= aq ;rw[e2];have e3:jd (iL (fun j=>iL (fun k=>eQ b j*eQ a (N+1-j+k)*MP n M (j+(N+1-j+k)) i l) j) (N+1))<=iL (fun j=>iL (fun k=>eQ (jd b*v) j*eQ (jd a*v) (N+1-j+k)) j) (N+1):=by
  refine bG (Ca _ _) (B4 _ fun j _=>bG (Ca _ _) (B4 _ fun k _=>?_));rw[xN,xN,D9,D9,KX,KX];have hr:=ajH (OV hv h (j+(N+1-j+k))) hi hl;rw[VA]at hr;have h1:=uQ (mN b).1 j;have h2:=uQ (mN a).1 (N+1-j+k);have h3:=cB hr (bM h1 h2)
  grind
 refine bG e3 ?_;have q1:iL (fun j=>iL (fun k=>eQ (jd b*v) j*eQ (jd a*v) k) (N+1)) (N+1)=iL (fun j=>iL (fun k=>eQ (jd b*v) j*eQ (jd a*v) k) (N+1-j)) (N+1)+iL (fun j=>iL (fun k=>eQ (jd b*v) j*eQ (jd a*v) (N+1-j+k)) j) (N+1):=
  Xw (fun j k=>eQ (jd b*v) j*eQ (jd a*v) k) (N+1)
 have q2:iL (fun j=>iL (fun k=>eQ (jd b*v) j*eQ (jd a*v) k) (N+1-j)) (N+1)=iL (fun s=>eQ (jd a*v+jd b*v) s) (N+1):=by
  rw[JG (fun j k=>eQ (jd b*v) j*eQ (jd a*v) k)];exact qm _ fun s _=>GC _ _ s
 have G0:∀ j k,0<=eQ (jd b*v) j*eQ (jd a*v) k:=fun j k=>bM (uQ hy j) (uQ hx k)
 have q3:iL (fun j=>iL (fun k=>eQ (jd b*v) j*eQ (jd a*v) k) (N+1)) (N+1)<=iL (fun s=>eQ (jd a*v+jd b*v) s) (N+1+(N+1)):=by
  rw[<-qm (f:=fun s=>iL (fun j=>eQ (jd b*v) j*eQ (jd a*v) (s-j)) (s+1)) _ fun s _=>GC _ _ s,<-JG (fun j k=>eQ (jd b*v) j*eQ (jd a*v) k)];refine bG (B4 _ fun j hj=>FY (fun k=>G0 j k) (show N+1<=N+1+(N+1)-j by omega)) ?_;exact FY (fun j=>B5 _ fun k _=>G0 j k) ae 
 rw[DG (fun s=>eQ (jd a*v+jd b*v) s) (N+1) (N+1),q1,q2]at q3;have cancel:∀ A B C:Rat,A+B<=A+C->B<=C:=by intro A B C h;grind
 exact cancel _ _ _ q3
theorem adX(n:Nat)(M:QM)(a b:Rat){ε:Rat}(hε:0<ε):∃ N0,∀ N,N0<=N->∀ i l,i<n->l<n->jd (qs n (SQ n M b N) (SQ n M a N) i l-SQ n M (a+b) N i l)<=ε:=by
 obtain⟨v,hv,h⟩:=ajI n M;have hz:0<=jd a*v+jd b*v:=by
  have hx:0<=jd a*v:=bM (mN a).1 hv;have hy:0<=jd b*v:=bM (mN b).1 hv
  grind
 obtain⟨m0,h0⟩:=XN hz hε;exact⟨m0,fun N hN i l hi hl=>bG (adW hv h a b N hi hl) (h0 (N+1) ae (N+1))⟩
theorem YM(N:Nat)(i l:Nat):SQ n M 0 N i l=xx i l:=by
 induction N with
 |zero=>rfl
 |succ N ih=>
  show SQ n M 0 N i l+TQ n M 0 (N+1) i l=_;rw[ih,J5];simp only[eQ,cA];grind
end
open Go.RowKit Fp Pu
def pf(f:Nat->Rat)(X:Iv):Prop:=∀ ε,0<ε->∃ N0,∀ N,N0<=N->∃ r,X.jY r/\jd (f N-r)<=ε
theorem pf.Nk{f:Nat->Rat}{X:Iv}{k:Nat}(h:∀ N,k<=N->X.jY (f N)):pf f X:=fun ε hε=>
 ⟨k,fun N hN=>⟨f N,h N hN,by rw[Rat.sub_self,Pa];exact bB hε⟩⟩
theorem pf.all{f:Nat->Rat}{X:Iv}(h:X.all=true):pf f X:=pf.Nk (k:=0) fun _ _=>.inl h
theorem pf.shift{f g:Nat->Rat}{X:Iv}(h:pf f X)(k:∀ ε,0<ε->∃ N0,∀ N,N0<=N->jd (g N-f N)<=ε):pf g X:=fun ε hε=>by
 obtain⟨N1,h1⟩:=h (ε/2) aq;obtain⟨N2,h2⟩:=k (ε/2) aq;refine⟨max N1 N2,fun N hN=>?_⟩;obtain⟨r,hr,hd⟩:=h1 N ae;have hg:=h2 N ae;refine⟨r,hr,?_⟩;have:=O9 (g N-f N) (f N-r);rw[show g N-f N+(f N-r)=g N-r by grind]at this
 grind
def EQ(c:Rat)(N:Nat):Rat:=iL (eQ c) (N+1)
theorem ahd(j:Nat):MP 1 (fun _ _=>1) j 0 0=1:=by
 induction j with
 |zero=>rfl
 |succ j ih=>
  show iL (fun q=>MP 1 (fun _ _=>1) j 0 q*1) 1=1;simp only[iL];rw[ih];grind
theorem Gl(c:Rat)(N:Nat):SQ 1 (fun _ _=>1) c N 0 0=EQ c N:=by
 rw[DO];exact qm _ fun j _=>by rw[ahd];grind
theorem JZ(a b:Rat){ε:Rat}(hε:0<ε):∃ N0,∀ N,N0<=N->jd (EQ (a+b) N-EQ a N*EQ b N)<=ε:=by
 obtain⟨N0,h0⟩:=adX 1 (fun _ _=>1) a b hε;refine⟨N0,fun N hN=>?_⟩;have:=h0 N hN 0 0 ag ag;rw[show qs 1 (SQ 1 (fun _ _=>1) b N) (SQ 1 (fun _ _=>1) a N) 0 0=EQ a N*EQ b N by
  show iL (fun q=>SQ 1 (fun _ _=>1) b N 0 q*SQ 1 (fun _ _=>1) a N q 0) 1=_;simp only[iL];rw[Gl,Gl];grind,Gl]at this
 obtain⟨_,a2,a3,_⟩:=mN (EQ a N*EQ b N-EQ (a+b) N);exact xM aq aq 
theorem YD(N:Nat):EQ 0 N=1:=by
 rw[<-Gl,YM];rfl
theorem Ps{x:Iv}{r s:Rat}(hx:x.ia)(h:x.jY r)(hs:jd s<=jd r):(qN x).jY s:=by
 unfold qN;cases xa:x.all
 .obtain ⟨h1,h2⟩:=h.ki xa
  obtain⟨m1,m2,_⟩:=BF hx.q;obtain⟨_,a2,a3,a4⟩:=mN r;obtain⟨_,b2,b3,_⟩:=mN s;have hr:jd r<=(my x).q:= aq ;refine .inr ⟨?_,?_⟩
  .show (iF (my x)).q<=s
   rw[oF];grind
  .show s<=(my x).q
   grind
 .rw [aR rfl];exact .inl xa
theorem DM{a b:Int}(h:a<=b):P2 a<=P2 b:=by
 rw[DN h];have h1:(1:Rat)<=((2^(b-a).toNat:Nat):Rat):=by
  have:=cX.2 (Nat.one_le_two_pow (n:=(b-a).toNat));exact this
 have:=b8 h1 (bB (mZ a))
 grind
open Go.RowKit Fp Pu
theorem JM{i:Nat}(h:i<2):i=0\/i=1:= ae 
open Go.RowKit Fp Pu
open Go.RowKit Fp Pu
def YE:Dy:=⟨false,1014047155841371404857783918912611814895143950022408150448898879701903863171748812343190420115852101928445847465915947005,-398⟩
def YF:Dy:=⟨false,2028094311682742809715567837825223629790287900044816300897797759403807726343497624686380840231704203856891694931831894109,-399⟩
def HF:Iv:=⟨YE,YF,false⟩
theorem after{N:Nat}(h:100<=N):∃ d,N=100+d:=⟨N-100,ae⟩
def zq(k:Int):Rat×Rat:=if k%4=0 then(1,0)else if k%4=1 then(0,1)else if k%4=2 then(-1,0)else(0,-1)
open Go.RowKit Fp Pu
def lq(r:Iv)(p:Nat):Nat->Iv
 | 0=>jE 1
 |j+1=>jS (iQ (lq r p j) r p) (jE ((j+1:Nat):Int)) p
def Oe(r:Iv)(p j:Nat):Iv:=if 2<=j%4 then qJ (lq r p j)else lq r p j
def Jw(r:Iv)(p:Nat):Nat->Iv
 | 0=>jE 0
 |j+1=>if(j+1)%2=1 then jk (Jw r p j) (Oe r p (j+1)) p else Jw r p j
theorem qK(n:Int):(pT n).q=P2 n:=by unfold pT;rw[qL];simp
theorem vC{r:Iv}{p:Nat}(_hr:r.ia)(il:8<=p)(ic:p<=512):∀ j,(lq r p j).ia
 | 0=>BJ 1 ag 
 |j+1=>vP _ _ ae ae 
theorem aj3{r:Iv}{p:Nat}(hr:r.ia)(il:8<=p)(ic:p<=512)(j:Nat):(Oe r p j).ia:=by
 unfold Oe;split
 .exact Fj (vC hr il ic j)
 .exact vC hr il ic j
theorem W6{r:Iv}{p:Nat}(hr:r.ia)(il:8<=p)(ic:p<=512):∀ j,(Jw r p j).ia
 | 0=>BJ 0 ag 
 |j+1=>by
  unfold Jw;split
  .exact r8 (W6 hr il ic j) (aj3 hr il ic _) ae ae 
  .exact W6 hr il ic j
theorem Of{r:Iv}{p:Nat}(hr:r.ia)(il:8<=p)(ic:p<=512){ρ:Rat}(h:r.jY ρ):∀ j,j<4294967296->(lq r p j).jY (eQ ρ j)
 | 0,_=>yP 1
 |j+1,hj=>by
  have e:eQ ρ (j+1)=eQ ρ j*ρ/((j+1:Nat):Rat):=by simp only[eQ,cA];grind
  rw[e];exact GX (qU _ _ ae ae) (Nd (j+1) hj) ae ae (M1 (vC hr il ic j) hr ae ae (Of hr il ic h j ae) h) (Vg (j+1))
theorem W7{r:Iv}{p:Nat}:∀ {j d:Nat},(lq r p (j+d)).all=false->(lq r p j).all=false
 |_,0,h=>h
 |j,d+1,h=>by
  apply W7 (d:=d);cases ha:(lq r p (j+d)).all
  .rfl
  .exfalso
   have:lq r p (j+(d+1))=ie:=by
    show jS (iQ (lq r p (j+d)) r p) _ p=_;rw[IX p (.inl ha),D5 p (.inl rfl)]
   rw[this]at h;cases h
open Go.RowKit Fp Pu
def ph(n:Int):Iv:=⟨iF (pT n),pT n,false⟩
theorem Cg{n:Int}{r:Rat}:(ph n).jY r ↔ -P2 n<=r/\r<=P2 n:=by
 unfold Iv.jY ph;simp only[bq,false_or];rw[oF,qK]
theorem zh{p:Nat}(hp:1<=p){n:Int}(h1:-1000<=n)(h2:n<=1000):G p (P2 n):=.inl ⟨1,n,by rw[uK];exact hp,ae,by rw[uK];omega,aj⟩
theorem DW{p:Nat}{S:Rat->Prop}{X:Iv}(h:DL p S X)(hp:1<=p){n:Int}(h1:-1000<=n)(h2:n<=1000)(hs:∀ r,S r -> -P2 n<=r/\r<=P2 n):Sub X (ph n):=by
 obtain⟨a,b,c⟩:=h.xt _ _ (zh hp h1 h2).neg (zh hp h1 h2) hs;refine .inr ⟨a,?_,?_⟩
 .show (iF (pT n)).q<=_
  rw[oF,qK];exact b
 .show _<=(pT n).q
  rw[qK];exact c
theorem Pb{a b u v:Rat}(h1:-u<=a)(h2:a<=u)(h3:-v<=b)(h4:b<=v):-(u*v)<=a*b/\a*b<=u*v:=by
 have ha:jd a<=u:=xM h2 aq;have hb:jd b<=v:=xM h4 aq;have hm:=xN a b;have h0:=(mN b).1;have hu:0<=u:=bG (mN a).1 ha;have m1:=b8 ha h0;have m2:=cB hb hu;obtain⟨_,c2,c3,_⟩:=mN (a*b);constructor<;>grind
theorem Su(j:Nat):P2 (-(j:Int))*P2 (-1)=P2 (-((j+1:Nat):Int)):=by
 rw[<-qn];congr 1;omega
theorem abx{a u:Rat}{n:Nat}(h1:-u<=a)(h2:a<=u):-u<=a/((n+1:Nat):Rat)/\a/((n+1:Nat):Rat)<=u:=by
 have hp:=Al n;have R3:(1:Rat)<=((n+1:Nat):Rat):=by
  have:=cX (a:=1) (b:=n+1);exact this.2 ae 
 have e:=dm (a:=a) (b:=((n+1:Nat):Rat)) aq;have hu:0<=u:= aq ;generalize a/((n+1:Nat):Rat)=x at *
 generalize ((n+1:Nat):Rat)=c at *
 constructor
 .apply dp.1
  intro iD;have m:=dO iD hp;have m2:=cB R3 hu
  grind
 .apply dp.1
  intro iD;have m:=dO iD hp;have m2:=cB R3 hu
  grind
theorem W9{y:Iv}(hy:y.ia)(h:Sub y (ph (-1))){p:Nat}(il:8<=p)(ic:p<=512):∀ j,j<=900->Sub (lq y p j) (ph (-(j:Int)))
 | 0,_=>by
  have e:(jE 1).lo.q=1/\(jE 1).hi.q=1/\(jE 1).all=false:=Vf 1;refine .inr ⟨e.2.2,?_,?_⟩
  .show (iF (pT _)).q<=_
   rw[oF,qK,show(lq y p 0).lo.q=1 from e.1];decide +kernel
  .show _<=(pT _).q
   rw[qK,show(lq y p 0).hi.q=1 from e.2.1];decide +kernel
 |j+1,hj=>by
  have ih:=W9 hy h il ic j ae;have vT:=vC hy il ic j;obtain⟨ta,_⟩:=ih.wD rfl;obtain⟨ya,_⟩:=h.wD rfl;have B:=M0 vT hy ta ya (show 1<=p by omega) ae;have s1:Sub (iQ (lq y p j) y p) (ph (-((j+1:Nat):Int))):=DW B ae ae ae (by
   rintro r ⟨a,b,ha,hb,rfl⟩;obtain⟨a1,a2⟩:=Cg.1 (ih.jY ha);obtain⟨b1,b2⟩:=Cg.1 (h.jY hb);rw[<-Su];exact Pb a1 a2 b1 b2)
  have vm:(iQ (lq y p j) y p).ia:=qU _ _ ae ae;obtain⟨ma,_⟩:=s1.wD rfl;have vn:=Nd (j+1) ae;have hs:lN (jE ((j+1:Nat):Int))≠0:=by rw[ahb ae];decide
  exact DW (GW vm vn ma hs (show 1<=p by omega) ae) ae ae ae (by
   rintro r ⟨a,b,ha,hb,rfl⟩;obtain⟨a1,a2⟩:=Cg.1 (s1.jY ha);obtain⟨b1,b2⟩:=hb.ki rfl;have e:=Vf (j+1);rw[e.1]at b1;rw[e.2.1]at b2;rw[show b=((j+1:Nat):Rat)from dN b2 b1];exact abx a1 a2)
def oB(x:Iv)(p:Nat):Bool:=x.all||(decide ((my x).m=0)||decide ((my x).iu <= -(p:Int)))
theorem XZ{d:Dy}(hm:d.m≠0){n:Int}(h:jd d.q<=P2 n):d.iu<=n+1:=by
 apply bE;intro iD;have hT:d.iu=(ib d.m:Int)+d.e:=by unfold Dy.iu;rw[aQ hm]
 have hb:0<ib d.m:=sk.2 (by rw[bN];omega);have h1:2^(ib d.m-1)<=d.m:=sk.1 ae;have h2:((2^(ib d.m-1):Nat):Rat)<=(d.m:Rat):=cX.2 h1;have h3:=b8 h2 (bB (mZ d.e));rw[<-uG,<-qn,show((ib d.m-1:Nat):Int)+d.e=d.iu-1 by rw[hT];omega]at h3;have h4:jd d.q=(d.m:Rat)*P2 d.e:=by
  have h0:0<=(d.m:Rat)*P2 d.e:=bM cF (bB (mZ _));rw[qv];unfold jd;cases d.neg
  .simp only[bq,a6];rw[aR h0]
  .simp only[bk]
   split<;>grind
 have h5:=DM (show n+1<=d.iu-1 by omega);have h6:P2 (n+1)=P2 n*2:=by rw[qn];congr 1
 have:=mZ n
 grind
theorem XV{x:Iv}(hx:x.ia){p:Nat}(h:Sub x (ph (-((p+1:Nat):Int)))):oB x p=true:=by
 unfold oB;cases ha:x.all
 .by_cases hm:(my x).m=0
  .rw [aS hm];rfl
  .obtain ⟨_,k1,k2⟩:=h.wD rfl
   obtain⟨m1,m2,m3⟩:=BF hx.q;replace k1:(iF (pT (-((p+1:Nat):Int)))).q<=x.lo.q:=k1;replace k2:x.hi.q<=(pT (-((p+1:Nat):Int))).q:=k2;rw[oF,qK]at k1;rw[qK]at k2;have hq:=hx.q;have qa:=mZ (-((p+1:Nat):Int));generalize hu:P2 (-((p+1:Nat):Int))=u at *
   have hle:jd (my x).q<=u:=xM (by rcases m3 with m3|m3<;>grind) (by rcases m3 with m3|m3<;>grind);have:=XZ hm (hu▸hle);rw[aS (show(my x).iu <= -(p:Int)by omega)];simp
 .rfl
theorem W8{y:Iv}(h:y.all=true)(p:Nat):lq y p 1=ie:=by
 show jS (iQ (jE 1) y p) _ p=_;rw[IX p (.inr h),D5 p (.inl rfl)]
theorem acJ{y:Iv}(hy:y.ia)(h:y.all=true\/Sub y (ph (-1))){p:Nat}(il:8<=p)(ic:p<=512):∃ N,1<=N/\N<=1000/\(∀ x,1<=x->x<N->oB (lq y p x) p=false)/\oB (lq y p N) p=true:=by
 have ex:∃ x,x<900/\decide (1<=x/\oB (lq y p x) p=true)=true:=by
  rcases h with h|h
  .exact ⟨1,ae,aS ⟨ae,by rw[W8 h];rfl⟩⟩
  .exact ⟨p+1,ae,aS ⟨ae,XV (vC hy il ic _) (W9 hy h il ic (p+1) ae)⟩⟩
 obtain⟨N,n1,n2,n3⟩:=qI (p:=fun x=>decide (1<=x/\oB (lq y p x) p=true)) ex;have n2':=ct n2;refine⟨N,n2'.1,ae,fun x h1 h2=>?_,n2'.2⟩;have:=fu (n3 x h2);cases hc:oB (lq y p x) p
 .rfl
 .exact absurd ⟨h1,hc⟩ this
def s9(y:Iv)(p:Nat):Nat->Iv
 | 0=>jE 1
 |j+1=>jk (s9 y p j) (lq y p (j+1)) p
def xX(y:Iv)(p N:Nat):Iv:=jk (s9 y p N) (qN (lq y p N)) p
theorem Cs{y:Iv}(hy:y.ia){p:Nat}(il:8<=p)(ic:p<=512):∀ j,(s9 y p j).ia
 | 0=>BJ 1 ag 
 |j+1=>r8 (Cs hy il ic j) (vC hy il ic _) ae ae 
theorem acI{y:Iv}(hy:y.ia){p:Nat}(il:8<=p)(ic:p<=512)(N:Nat):(xX y p N).ia:=r8 (Cs hy il ic N) (Ce (vC hy il ic N)) ae ae 
open Go.RowKit Fp Pu
def lM(x:Iv)(p:Nat):Iv:=if x.all then ie else kE (jj x.lo p false) (jz x.lo p false) (jj x.hi p true) (jz x.hi p true)
def tL(a b:Iv):Iv:=if a.all||b.all then ie else⟨a.lo,b.hi,false⟩
theorem Du{x:Iv}(hx:x.ia){p:Nat}(hp:1<=p)(ic:p<=4096):(lM x p).ia:=by
 unfold lM;cases xa:x.all
 .obtain ⟨c1,c2⟩:=hx.xS
  simp only[bq,a6];unfold kE;split
  .exact mj
  .rename_i he
   have A:=wI c1 hp ic;have B:=wJ c2 hp ic;refine .inr ⟨rfl,wK _ hp ic _,wK _ hp ic _,?_⟩;rw[pU];exact bG (A.1 ae).2 (bG hx.q (B.1 ae).2)
 .exact mj
theorem FP{x:Iv}(hx:x.ia){p:Nat}(hp:1<=p)(ic:p<=4096){r:Rat}(h:x.jY r):(lM x p).jY r:=by
 unfold lM;cases xa:x.all
 .obtain ⟨c1,c2⟩:=hx.xS
  obtain⟨h1,h2⟩:=h.ki xa;simp only[bq,a6];unfold kE;split
  .exact .inl rfl
  .rename_i he
   have A:=wI c1 hp ic;have B:=wJ c2 hp ic;exact .inr ⟨bG (A.1 ae).2 h1,bG h2 (B.1 ae).2⟩
 .exact .inl rfl
theorem ajF{x:Iv}(hx:x.ia){p:Nat}(hp:1<=p)(ic:p<=4096){n:Int}(h1:-1000<=n)(h2:n<=1000)(h:Sub x (ph n)):Sub (lM x p) (ph n):=by
 obtain⟨xa,k1,k2⟩:=h.wD rfl;replace k1:(iF (pT n)).q<=x.lo.q:=k1;replace k2:x.hi.q<=(pT n).q:=k2;rw[oF,qK]at k1;rw[qK]at k2;obtain⟨c1,c2⟩:=hx.xS;have A:=(wI c1 hp ic).2 _ (zh hp h1 h2).neg k1;have B:=(wJ c2 hp ic).2 _ (zh hp h1 h2) k2;unfold lM kE;rw[xa];simp only[bq,a6];rw[aQ ae];refine .inr ⟨rfl,?_,?_⟩
 .show (iF (pT n)).q<=_
  rw[oF,qK];exact A.2
 .show _<=(pT n).q
  rw[qK];exact B.2
theorem af5{f g:Nat->Rat}{A B:Iv}(hA:pf f A)(hB:pf g B)(h:∀ ε,0<ε->∃ N0,∀ N,N0<=N->f N<=g N+ε)(aa:A.all=false)(ba:B.all=false):A.lo.q<=B.hi.q:=by
 apply dp.1;intro iD;obtain⟨ε,hε⟩:∃ ε,ε=(A.lo.q-B.hi.q)/4:=⟨_,rfl⟩
 have h0:0<ε:=by rw[hε];grind
 obtain⟨N1,h1⟩:=hA ε h0;obtain⟨N2,h2⟩:=hB ε h0;obtain⟨N3,h3⟩:=h ε h0;obtain⟨r,hr,hd⟩:=h1 (max N1 (max N2 N3)) ae;obtain⟨s,hs,he⟩:=h2 (max N1 (max N2 N3)) ae;have h4:=h3 (max N1 (max N2 N3)) ae;obtain⟨r1,r2⟩:=hr.ki aa;obtain⟨s1,s2⟩:=hs.ki ba;obtain⟨_,a2,a3,_⟩:=mN (f (max N1 (max N2 N3))-r);obtain⟨_,b2,b3,_⟩:=mN (g (max N1 (max N2 N3))-s)
 grind
theorem YC{c:Rat}(h:0<=c)(N:Nat):1<=EQ c N:=by
 have:=FY (f:=eQ c) (fun i=>uQ h i) (show 1<=N+1 by omega);have e:iL (eQ c) 1=1:=by show 0+1=1;grind
 unfold EQ;rw[e]at this;exact this
theorem YB(c:Rat){ε:Rat}(hε:0<ε):∃ N0,∀ N,N0<=N -> -ε<=EQ c N:=by
 obtain⟨N0,h0⟩:=JZ (c/2) (c/2) hε;rw[show c/2+c/2=c by grind]at h0;refine⟨N0,fun N hN=>?_⟩;have h:=h0 N hN;have hs:0<=EQ (c/2) N*EQ (c/2) N:=by
  by_cases k:0<=EQ (c/2) N
  .exact bM k k
  .have:=bM (show 0 <= -EQ (c/2) N by grind) (show 0 <= -EQ (c/2) N by grind)
   grind
 obtain⟨_,a2,a3,_⟩:=mN (EQ c N-EQ (c/2) N*EQ (c/2) N)
 grind
theorem Yy{c:Rat}(h:0<=c):∃ M:Rat,0<M/\∀ N,EQ c N<=M:=by
 obtain⟨m0,h0⟩:=XN h (show(0:Rat)<1 by decide);have hs:0<=iL (eQ c) m0:=by
  have:=FY (f:=eQ c) (fun i=>uQ h i) (bL m0);exact this
 refine⟨iL (eQ c) m0+1,aq,fun N=>?_⟩;unfold EQ;by_cases hN:m0<=N+1
 .obtain ⟨d,hd⟩:∃ d,N+1=m0+d:=⟨N+1-m0,ae⟩
  rw[hd,DG];have:=h0 m0 (aU _) d
  grind
 .have:=FY (f:=eQ c) (fun i=>uQ h i) (show N+1<=m0 by omega)
  grind
theorem YA{a b:Rat}(h:a<=b){ε:Rat}(hε:0<ε):∃ N0,∀ N,N0<=N->EQ a N<=EQ b N+ε:=by
 have hd:0<=b-a:= aq ;obtain⟨N1,h1⟩:=JZ a (b-a) (show 0<ε/2 by grind);rw[show a+(b-a)=b by grind]at h1;obtain⟨M,sN,hM⟩:∃ M:Rat,0<M/\∀ N,EQ (b-a) N<=M:=Yy hd;obtain⟨N2,h2⟩:=YB a (show 0<ε/(2*M)by rw[cA];exact dL hε (fp.2 aq));refine⟨max N1 N2,fun N hN=>?_⟩;have k1:=h1 N ae;have k2:=h2 N ae;have e:ε/(2*M)*M=ε/2:=by
  have:=dm (a:=ε) (b:=2*M) aq 
  grind
 have k3:=YC hd N;have k4:=hM N;obtain⟨_,a2,a3,_⟩:=mN (EQ b N-EQ a N*EQ (b-a) N);generalize EQ a N=x at *
 generalize EQ (b-a) N=y at *
 generalize EQ b N=z at *
 generalize ε/(2*M)=δ at *
 have m1:=bM (show 0<=x+δ by grind) (show 0<=y-1 by grind);have hδ:0<=δ:=by
  apply dp.1;intro iD;have:=dO iD sN
  grind
 have m2:=cB (show y-1<=M by grind) hδ
 grind
open Go.RowKit Fp Pu
theorem Rt{y:Iv}{r:Rat}(hy:y.ia)(h:y.jY r){p:Nat}(il:8<=p)(ic:p<=512):∀ j,j<4294967296->(s9 y p j).jY (EQ r j)
 | 0,_=>by
  have:EQ r 0=1:=by unfold EQ;simp only[iL,eQ];grind
  rw[this];exact yP 1
 |j+1,hj=>AO (Cs hy il ic j) (vC hy il ic (j+1)) ae ae (Rt hy h il ic j ae) (Of hy il ic h (j+1) hj)
theorem acF{y:Iv}(h:y.all=true){p N:Nat}(hN:1<=N):(xX y p N).all=true:=by
 have ht:(lq y p N).all=true:=by
  cases hc:(lq y p N).all
  .obtain ⟨d,rfl⟩:∃ d,N=1+d:=⟨N-1,ae⟩
   have:=W7 hc;rw[W8 h]at this;cases this
  .rfl
 unfold xX;rw[Gs p (.inr (by unfold qN;rw[ht];simpa using ht))];rfl
theorem acG{y:Iv}{r:Rat}(hy:y.ia)(h:y.jY r)(hr:jd r*2<=1){p:Nat}(il:8<=p)(ic:p<=512){N:Nat}(hN:1<=N)(sc:N<=1000)(M:Nat)(hM:N<=M):(xX y p N).jY (EQ r M):=by
 obtain⟨d,rfl⟩:∃ d,M=N+d:=⟨M-N,ae⟩
 have e1:EQ r (N+d)=EQ r N+iL (fun i=>eQ r (N+1+i)) d:=by
  unfold EQ;rw[show N+d+1=N+1+d by omega,DG]
 have hz:=(mN r).1;have t:=OC hz (J:=1) (by exact hr) (show 1<=N+1 by omega) d;have p0:=uQ hz (N+1+d);have b1:jd (iL (fun i=>eQ r (N+1+i)) d)<=iL (fun i=>eQ (jd r) (N+1+i)) d:=by
  have:=Ca (fun i=>eQ r (N+1+i)) d;rwa[qm d fun i _=>D9 r (N+1+i)]at this
 have e3:eQ (jd r) (N+1)*2<=eQ (jd r) N:=OB hz (J:=1) (by exact hr) (show 1<=N by omega);rw[e1];refine AO (Cs hy il ic N) (Ce (vC hy il ic N)) ae ae (Rt hy h il ic N ae) (Ps (vC hy il ic N) (Of hy il ic h N ae) ?_);rw[D9];grind
theorem acH{y:Iv}{r:Rat}(hy:y.ia)(h:y.jY r)(hb:y.all=true\/Sub y (ph (-1))){p:Nat}(il:8<=p)(ic:p<=512){N:Nat}(hN:1<=N)(sc:N<=1000):pf (EQ r) (xX y p N):=by
 rcases hb with hb|hb
 .exact pf.all (acF hb hN)
 .refine pf.Nk (k:=N) fun M hM=>acG hy h ?_ il ic hN sc M hM
  obtain⟨b1,b2⟩:=Cg.1 (hb.jY h);have e:P2 (-1)=1/2:= ar ;rw[e]at b1 b2;have:=xM (x:=r) (b:=1/2) aq aq 
  grind
def oq(x:Iv)(p:Nat):Iv:=if(iY x).all then ie else kE (jj (kJ (iY x).lo (iY x).lo) p false) (jz (kJ (iY x).lo (iY x).lo) p false) (jj (kJ (iY x).hi (iY x).hi) p true) (jz (kJ (iY x).hi (iY x).hi) p true)
theorem O8{x:Iv}(xa:x.all=false):0<=(iY x).lo.q:=by
 unfold iY;rw[xa];show 0<=(nj x).q;unfold nj;split
 .rw [rz];exact b9
 .obtain ⟨_,_,m⟩:=BO (k0 x.lo) (k0 x.hi)
  rcases m with m|m<;>rw[m]
  .exact (yR x.lo).1
  .exact (yR x.hi).1
theorem zp(x:Iv):(iY x).all=x.all:=by unfold iY;cases h:x.all<;>simp[h,ie]
theorem Oo{x:Iv}(hx:x.ia){p:Nat}(hp:1<=p)(ic:p<=4096){r:Rat}(h:x.jY r):(oq x p).jY (r*r):=by
 unfold oq;rw[zp];cases xa:x.all
 .simp only[bq,a6]
  obtain⟨s,hs,h0,e⟩:∃ s,(iY x).jY s/\0<=s/\r*r=s*s:=by
   by_cases hr:0<=r
   .exact ⟨r,Gq hx h (.inl ⟨rfl,hr⟩),hr,rfl⟩
   .exact ⟨-r,Gq hx h (.inr ⟨rfl,aq⟩),aq,aq⟩
  have hl:=O8 xa;have ya:(iY x).all=false:=by rw[zp];exact xa
  obtain⟨s1,s2⟩:=hs.ki ya;rw[e];unfold kE;split
  .exact .inl rfl
  .rename_i he
   have A:=wI (zF (iY x).lo (iY x).lo) hp ic;have B:=wJ (zF (iY x).hi (iY x).hi) hp ic;rw[Dj]at A B;have a1:=(A.1 ae).2;have b1:=(B.1 ae).2;refine .inr ⟨?_,?_⟩
   .have m1:=b8 s1 hl
    have m2:=cB s1 h0;show _<=s*s;exact bG a1 (bG m1 (by rw[fo s];rw[fo (iY x).lo.q s];exact m2))
   .have m1:=b8 s2 h0
    have m2:=cB s2 (bG h0 s2);exact bG (bG m1 m2) b1
 .exact .inl rfl
theorem JC{x:Iv}(hx:x.ia){p:Nat}(hp:1<=p)(ic:p<=4096):(oq x p).ia:=by
 cases xa:x.all
 .have h1:=Oo hx hp ic hx.zQ
  unfold oq at h1 ⊢;rw[zp,xa]at h1 ⊢;simp only[bq,a6]at h1 ⊢;unfold kE at h1 ⊢;split
  .exact mj
  .rename_i he
   rw[aQ he]at h1;obtain⟨h2,h3⟩:=h1.ki rfl;refine .inr ⟨rfl,wK _ hp ic _,wK _ hp ic _,?_⟩;rw[pU];exact bG h2 h3
 .unfold oq
  rw[zp,xa];exact mj
theorem pf.sqr{f:Nat->Rat}{X:Iv}(hx:X.ia)(h:pf f X){p:Nat}(hp:1<=p)(ic:p<=4096):pf (fun N=>f N*f N) (oq X p):=by
 cases xa:X.all
 .intro ε hε
  obtain⟨B,hB⟩:∃ B,B=jd X.lo.q+jd X.hi.q+1:=⟨_,rfl⟩
  have a0:=mN X.lo.q;have b0:=mN X.hi.q;have hB1:1<=B:= aq ;have Lr:0<2*B:= aq ;obtain⟨δ,hδ⟩:∃ δ,δ=min 1 (ε/(2*B)):=⟨_,rfl⟩
  have hεB:0<ε/(2*B):=by rw[cA];exact dL hε (fp.2 Lr)
  have TF:0<δ:=by rw[hδ];grind
  have hδ1:δ<=1:=by rw[hδ];grind
  have hδ2:δ*(2*B)<=ε:=by
   have h1:δ<=ε/(2*B):=by rw[hδ];grind
   have h2:=b8 h1 (bB Lr);rwa[dm aq]at h2
  obtain⟨N0,h0⟩:=h δ TF;refine⟨N0,fun N hN=>?_⟩;obtain⟨r,hr,hd⟩:=h0 N hN;refine⟨r*r,Oo hx hp ic hr,?_⟩;obtain⟨r1,r2⟩:=hr.ki xa;rw[show f N*f N-r*r=(f N-r)*(f N+r)by grind,xN];have hs:jd (f N+r)<=2*B:=by
   obtain⟨_,c2,c3,_⟩:=mN (f N-r);exact xM aq aq 
  have h3:=cB hs (mN (f N-r)).1;have h4:=b8 hd (bB Lr)
  grind
 .exact pf.all (by unfold oq;rw[zp,xa];rfl)
theorem Yz(r:Rat):∀ ε,0<ε->∃ N0,∀ N,N0<=N->jd (EQ r N-EQ (r*P2 (-1)) N*EQ (r*P2 (-1)) N)<=ε:=by
 intro ε hε;have e:r*P2 (-1)+r*P2 (-1)=r:=by
  have:P2 (-1)=1/2:= ar ;rw[this];grind
 have:=JZ (r*P2 (-1)) (r*P2 (-1)) hε;rwa[e]at this
theorem af4{r:Rat}{X:Iv}(hx:X.ia)(h:pf (EQ (r*P2 (-1))) X){p:Nat}(hp:1<=p)(ic:p<=4096):pf (EQ r) (oq X p):=(h.sqr hx hp ic).shift (Yz r)
theorem aj2{y:Iv}{n:Int}(h:Sub y (ph n)):(mL y (-1)).all=true\/Sub (mL y (-1)) (ph (n-1)):=by
 obtain⟨ya,k1,k2⟩:=h.wD rfl;replace k1:(iF (pT n)).q<=y.lo.q:=k1;replace k2:y.hi.q<=(pT n).q:=k2;rw[oF,qK]at k1;rw[qK]at k2;unfold mL kE;rw[ya];simp only[bq,a6];split
 .exact .inl rfl
 .rename_i he
  have e:P2 (n-1)=P2 n*P2 (-1):=by rw[<-qn];congr 1
  refine .inr (.inr ⟨rfl,?_,?_⟩)
  .show (iF (pT (n-1))).q<=(sU y.lo (-1)).q
   rw[oF,qK,AE ae,e,<-fN,vi];exact k1
  .show (sU y.hi (-1)).q<=(pT (n-1)).q
   rw[qK,AE ae,e,vi];exact k2
end Go.Proofs.YtdgnpeddgdclhaaGreatDoor
