/- Lemmas that the last file uses. -/
import Derived.Test.YtdgnpeddgdclhaaGreatDoorM02
set_option linter.unusedSimpArgs false
set_option linter.unusedVariables false
set_option linter.defProp false
set_option maxHeartbeats 4000000
namespace Go.Proofs.YtdgnpeddgdclhaaGreatDoor
open Go.RowKit Fp Pu
def UO(a b:List Nat)(x:Nat):PS:=⟨67,false,[(20,.e (iP x)),(19,.e (iP a.length)),(18,.e (gX a)),(5,.own 17),(1,.e (gX b))],[(17,.row false 79 (a.length+b.length) 1 (jb (lr a b x)))]⟩
def UP(a b:List Nat)(x:Nat)(k:Nat):PS:=⟨67,false,[(27,.e (iP k)),(26,.e (iP b.length)),(25,.e (gX b)),(8,.e (.v (.int .u64 (((mT (a.getD x 0) x b (lr a b x) k).2:Nat):Int)))),(7,.e (.v (.int .u32 (a.getD x 0:Int)))),(6,.e (iP x)),(20,.e (iP x)),(19,.e (iP a.length)),(18,.e (gX a)),(5,.own 17),(1,.e (gX b))],[(17,.row false 79 (a.length+b.length) 1 (jb ((mT (a.getD x 0) x b (lr a b x) k).1)))]⟩
theorem agM(a b:List Nat)(ha:iC a)(hb:iC b)(h1:a.length<=3000)(h2:b.length<=3000):gV 221 [gX a,gX b] (gX (lr a b a.length)):=by
 exact tr false Tryz.call221 Tryz.func221 (chain [iq ((a.length:Int)+(b.length:Int)) ae,.a (ae:0<=(((a.length:Int)+(b.length:Int)):Int)/\(((a.length:Int)+(b.length:Int)):Int)<=(((a.length:Int)+(b.length:Int)):Int)),.a (ae:((4:Nat):Int)*((a.length:Int)+(b.length:Int))<=281474976710656/\(((a.length:Int)+(b.length:Int)):Int)<=9223372036854775807),.s (Sp.jv (UO a b) 0 a.length ae (fun x hx kf=>by
    have f1:=ha.getD x;have so:=Fc ha hb x ae;have g1:=so.len;have g2:=(Fb f1 hb so.ok (i:=x) ae b.length ae).len;have g3:=(Fb f1 hb so.ok (i:=x) ae b.length ae).lt;exact iB (chain [tT 21 ((x:Int)<(a.length:Int)) ae,iX ((x:Int)) (a.length) ae,.s (Sp.jv (UP a b x) 0 b.length ae (fun k hk Ew=>by
    have f2:=hb.getD k;have q:=Fb f1 hb so.ok (i:=x) ae k ae;have f3:=q.ok.getD (x+k);have f4:=q.lt;have f5:=q.len;have f6:=UQ f1 f2;exact iB (chain [tT 28 ((k:Int)<(b.length:Int)) ae,iX ((k:Int)) (b.length) ae,.o 33 (.int (px _ ae):PV.le (.e (.v (.int .u64 (IntKind.u64.wrap (a.getD x 0:Int))))) (.e (.v (.int .u64 (a.getD x 0:Int))))),.o 35 (.int (px _ ae):PV.le (.e (.v (.int .u64 (IntKind.u64.wrap (b.getD k 0:Int))))) (.e (.v (.int .u64 (b.getD k 0:Int))))),
     pd ((a.getD x 0:Int)*(b.getD k 0:Int)) ae,iq ((x:Int)+(k:Int)) ae,iX ((((x+k):Nat):Int)) ((a.length+b.length)) ae,.a (ae:(x+k)<(a.length+b.length)),.o 43 (.int (px _ ae):PV.le (.e (.v (.int .u64 (IntKind.u64.wrap (((((mT (a.getD x 0) x b (lr a b x) k).1).getD (x+k) 0):Nat):Int))))) (.e (.v (.int .u64 (((((mT (a.getD x 0) x b (lr a b x) k).1).getD (x+k) 0):Nat):Int))))),
     pd (((((a.getD x 0)*(b.getD k 0)):Nat):Int)+(((((mT (a.getD x 0) x b (lr a b x) k).1).getD (x+k) 0):Nat):Int)) ae,
     pd ((((((a.getD x 0)*(b.getD k 0))+(((mT (a.getD x 0) x b (lr a b x) k).1).getD (x+k) 0)):Nat):Int)+(((mT (a.getD x 0) x b (lr a b x) k).2:Nat):Int)) ae,
     iq ((x:Int)+(k:Int)) ae,.o 52 (.int (uq _):PV.le (.e (.v (.int .u32 (IntKind.u32.wrap ((((((a.getD x 0)*(b.getD k 0))+(((mT (a.getD x 0) x b (lr a b x) k).1).getD (x+k) 0))+(mT (a.getD x 0) x b (lr a b x) k).2):Nat):Int))))) (.e (.v (.int .u32 (((((((a.getD x 0)*(b.getD k 0))+(((mT (a.getD x 0) x b (lr a b x) k).1).getD (x+k) 0))+(mT (a.getD x 0) x b (lr a b x) k).2)%4294967296):Nat):Int))))),.a (ae:0<=(32:Int)/\(32:Int)<=((64:Nat):Int)),.o 54 (.int (BZ _):PV.le (.e (.v (.int .u64 (((((((a.getD x 0)*(b.getD k 0))+(((mT (a.getD x 0) x b (lr a b x) k).1).getD (x+k) 0))+(mT (a.getD x 0) x b (lr a b x) k).2):Nat):Int)/2^32)))) (.e (.v (.int .u64 (((((((a.getD x 0)*(b.getD k 0))+(((mT (a.getD x 0) x b (lr a b x) k).1).getD (x+k) 0))+(mT (a.getD x 0) x b (lr a b x) k).2)/4294967296):Nat):Int))))),
     iX ((((x+k):Nat):Int)) ((a.length+b.length)) ae,.a (ae:(x+k)<(a.length+b.length)),iq ((k:Int)+1) ae]<|.e (chain [.o 8 (.int aw:PV.le (.e (.v (.int .u64 (((((((a.getD x 0)*(b.getD k 0))+(((mT (a.getD x 0) x b (lr a b x) k).1).getD (x+k) 0))+(mT (a.getD x 0) x b (lr a b x) k).2)/4294967296):Nat):Int)))) (.e (.v (.int .u64 (((mT (a.getD x 0) x b (lr a b x) (k+1)).2:Nat):Int))))),.b 17 (N5 rfl ae:Bx.le (.row false 79 (a.length+b.length) 1 (fun i' j'=>if i'=(x+k)/\0<=j'/\j'<0+1 then[(.v (.int .u32 (((((((a.getD x 0)*(b.getD k 0))+(((mT (a.getD x 0) x b (lr a b x) k).1).getD (x+k) 0))+(mT (a.getD x 0) x b (lr a b x) k).2)%4294967296):Nat):Int)))].getD (j'-0) .any else(jb ((mT (a.getD x 0) x b (lr a b x) k).1)) i' j')) (.row false 79 (a.length+b.length) 1 (jb ((mT (a.getD x 0) x b (lr a b x) (k+1)).1))))]<|.nil)) ah)
  (fun hk=>by
    exact iB (chain [tF 28 ((b.length:Int)<(b.length:Int)) ae]<|.nil) ah) ak:jq 7 Tryz.f221 (UP a b x 0) (.exit 2) ⟨67,false,[(8,.e (.v (.int .u64 (((mT (a.getD x 0) x b (lr a b x) b.length).2:Nat):Int)))),(6,.e (iP x)),(20,.e (iP x)),(19,.e (iP a.length)),(18,.e (gX a)),(5,.own 17),(1,.e (gX b))],[(17,.row false 79 (a.length+b.length) 1 (jb ((mT (a.getD x 0) x b (lr a b x) b.length).1)))]⟩) (chain [.o 8 (.int aw:PV.le (.e (.v (.int .u64 0))) (.e (.v (.int .u64 (((mT (a.getD x 0) x b (lr a b x) 0).2:Nat):Int))))),.b 17 (.iS rfl:Bx.le (.row false 79 (a.length+b.length) 1 (jb (lr a b x))) (.row false 79 (a.length+b.length) 1 (jb ((mT (a.getD x 0) x b (lr a b x) 0).1))))]<|.nil),
     iq ((x:Int)+(b.length:Int)) ae,.o 63 (.int (uq _):PV.le (.e (.v (.int .u32 (IntKind.u32.wrap (((mT (a.getD x 0) x b (lr a b x) b.length).2:Nat):Int))))) (.e (.v (.int .u32 ((((mT (a.getD x 0) x b (lr a b x) b.length).2%4294967296):Nat):Int))))),
     iX ((((x+b.length):Nat):Int)) ((a.length+b.length)) ae,.a (ae:(x+b.length)<(a.length+b.length)),iq ((x:Int)+1) ae]<|.e (chain [.b 17 (N5 rfl ae:Bx.le (.row false 79 (a.length+b.length) 1 (fun i' j'=>if i'=(x+b.length)/\0<=j'/\j'<0+1 then[(.v (.int .u32 ((((mT (a.getD x 0) x b (lr a b x) b.length).2%4294967296):Nat):Int)))].getD (j'-0) .any else(jb ((mT (a.getD x 0) x b (lr a b x) b.length).1)) i' j')) (.row false 79 (a.length+b.length) 1 (jb (lr a b (x+1)))))]<|.nil)) ah)
  (fun hx=>by
    exact iB (chain [tF 21 ((a.length:Int)<(a.length:Int)) ae]<|.nil) ah) ak:jq 3 Tryz.f221 (UO a b 0) (.exit 0) ⟨67,false,[(5,.own 17)],[(17,.row false 79 (a.length+b.length) 1 (jb (lr a b a.length)))]⟩) (chain [.b 17 (FT rfl (fun i=>by simp[lr,aW,fH];split<;>rfl):Bx.le (.row false 79 (a.length+b.length) 1 (fun _ j_=>[(.v (.int .u32 0))].getD j_ .any)) (.row false 79 (a.length+b.length) 1 (jb (lr a b 0))))]<|.nil)]<|rR (gX (lr a b a.length)) (yU (by rw[(Fc ha hb a.length ae).len]):E.le (.sl false (a.length+b.length) 1 (jb (lr a b a.length))) (gX (lr a b a.length)))) ah 
open Go.RowKit Fp Pu
theorem M8(L:List Nat)(h:L.length<=256):gV 203 [gX L] (bP false):=by
 exact tr true Tryz.call203 Tryz.func203 (chain [tF 5 (256<(L.length:Int)) ae]<|.nil) ah 
theorem agL(L:List Nat)(h1:L.length<=256):gV 164 [(.sl true 1 1 fun i_ j_=>[(gX L)].getD (i_*1+j_) (.v (.bool false)))] (bP false):=by
 exact tr true Tryz.call164 Tryz.func164 (chain [.c (Ui true 1 _ 203 [] (fun _=>false) (fun i hi=>(match i,hi with|0,_=>M8 _ h1|n+1,hi=>absurd hi ae)) ae (fun _ _=>rfl):gV 202 [(.sl true 1 1 fun i_ j_=>[(gX L)].getD (i_*1+j_) (.v (.bool false))),(.fn 203 [])] _)]<|.nil) ah 
theorem UX(L:List Nat)(M:List Nat)(h1:L.length<=256)(h2:M.length<=256):gV 164 [(.sl true 2 1 fun i_ j_=>[(gX L),(gX M)].getD (i_*1+j_) (.v (.bool false)))] (bP false):=by
 exact tr true Tryz.call164 Tryz.func164 (chain [.c (Ui true 2 _ 203 [] (fun _=>false) (fun i hi=>(match i,hi with|0,_=>M8 _ h1|1,_=>M8 _ h2|n+2,hi=>absurd hi ae)) ae (fun _ _=>rfl):gV 202 [(.sl true 2 1 fun i_ j_=>[(gX L),(gX M)].getD (i_*1+j_) (.v (.bool false))),(.fn 203 [])] _)]<|.nil) ah 
theorem agN(L M:List Nat)(hL:iC L)(hM:iC M)(h1:L.length<=256)(h2:M.length<=256)(hf:(gU (val L*val M)).length<=256):gV 181 [gX L,gX M] (.iw [gX (gU (val L*val M)),iP 0]):=by
 have ka:=hL.ij;have kb:=hM.ij;have ta:=oG L;have tb:=oG M;unfold lQ at ta tb;have km:=(Fc ka kb _ (aU _)).ok;have he:ij (lr (ij L) (ij M) (ij L).length)=gU (val L*val M):=by rw[qo km,alO ka kb,oo,oo]
 have hd:(ij (lr (ij L) (ij M) (ij L).length)).length<=256:=by rw[he];exact hf
 exact tr true Tryz.call181 Tryz.func181 (chain [.c (UX _ _ af af:gV 164 [(.sl true 2 1 fun i_ j_=>[(gX L),(gX M)].getD (i_*1+j_) (.v (.bool false)))] _),.c (tg _ hL:gV 167 [(gX L)] _),.c (tg _ hM:gV 167 [(gX M)] _),.c (agM _ _ ka kb ae ae:gV 221 [(gX (ij L)),(gX (ij M))] _),.c (UU _ km hd:gV 165 [(gX (lr (ij L) (ij M) (ij L).length))] _)]<|rQ (.iw [(gX (ij (lr (ij L) (ij M) (ij L).length))),(iP 0)]) (.iw [gX (gU (val L*val M)),iP 0]) (by rw[he])) ah 
theorem yJ(m n:Nat)(h1:(gU m).length<=256)(h2:(gU n).length<=256)(hf:(gU (m*n)).length<=256):gV 181 [gX (gU m),gX (gU n)] (.iw [gX (gU (m*n)),iP 0]):=by
 have:=agN (gU m) (gU n) (kB m) (kB n) h1 h2 (by rw[jC,jC];exact hf);rwa[jC,jC]at this
open Go.RowKit Fp Pu
theorem vj(m n:Nat)(h1:(gU m).length<=256)(h2:n<=65536)(h3:(gU (m*2^n)).length<=256):gV 216 [(gX (gU m)),(iP n)] (gX (gU (m*2^n))):=by
 exact tr true Tryz.call216 Tryz.func216 (chain [.c (UZ _ _ ae ae ae:gV 168 [(gX (gU m)),(iP n)] _)]<|.nil) ah 
theorem NQ(m n:Nat)(h1:(gU m).length<=256)(h2:n<=65536):gV 217 [(gX (gU m)),(iP n)] (.iw [(gX (gU (m/2^n))),(bP (decide (m%2^n≠0)))]):=by
 have hb:=vD h1;have hq:(gU (m/2^n)).length<=256:=ng (by have:=sQ (bw m (2^n));omega);have tR:(gU (m/2^n*2^n)).length<=256:=ng (by have:=sQ (cN m (2^n));omega);have hr:(gU (m/2^ia m)).length<=256:=ng (by have:=sQ (bw m (2^ia m));omega);have nu:(gU (m/2^ia m*2^ia m)).length<=256:=ng (by have:=sQ (cN m (2^ia m));omega);by_cases hn:ia m<n
 .have q1:=QW (cW hn)
  have q2:=QW (aU (ia m));exact tr true Tryz.call217 Tryz.func217 (chain [.c (r9 _ ae:gV 194 [(gX (gU m))] _),tT 11 ((ia m:Int)<(n:Int)) ae,.c (r9 _ ae:gV 194 [(gX (gU m))] _),.c (M9 _ _ ae ae:gV 127 [(gX (gU m)),(iP (ia m:Int))] _),.c (vj _ _ ae ae ae:gV 216 [(gX (gU (m/2^(ia m)))),(iP (ia m:Int))] _),.c (yH _ _ ae ae:gV 131 [(gX (gU ((m/2^(ia m))*2^(ia m)))),(gX (gU m))] _)]<|rQ (.iw [(gX (gU (m/2^(ia m)))),(bP ((jY ((m/2^(ia m))*2^(ia m)) m) != 0))]) (.iw [(gX (gU (m/2^n))),(bP (decide (m%2^n≠0)))]) (by rw[Uu,q1.1,q1.2,q2.1,q2.2])) ah 
 .exact tr true Tryz.call217 Tryz.func217 (chain [.c (r9 _ ae:gV 194 [(gX (gU m))] _),tF 11 ((ia m:Int)<(n:Int)) ae,.c (M9 _ _ ae ae:gV 127 [(gX (gU m)),(iP n)] _),.c (vj _ _ ae ae ae:gV 216 [(gX (gU (m/2^n))),(iP n)] _),.c (yH _ _ ae ae:gV 131 [(gX (gU ((m/2^n)*2^n))),(gX (gU m))] _)]<|rQ (.iw [(gX (gU (m/2^n))),(bP ((jY ((m/2^n)*2^n) m) != 0))]) (.iw [(gX (gU (m/2^n))),(bP (decide (m%2^n≠0)))]) (by rw[Uu])) ah 
open Go.RowKit Fp Pu
abbrev OI:E:=.sl false 1 1 fun i_ j_=>[(.v (.int .u32 1))].getD (i_*1+j_) (.v (.bool false))
abbrev JS(p):=gX (gU (0*2^((0-(jk 0 0 p)).toNat)))
def nR(m:Nat)(e:Int)(p:Nat):Nat:=if jk m e p<=e then m*2^(e-jk m e p).toNat else m/2^(jk m e p-e).toNat
def rz(m:Nat)(e:Int)(more:Bool)(p:Nat):Bool:=if jk m e p<=e then more else(more||decide (m%2^(jk m e p-e).toNat≠0))
theorem abj(m:Nat)(e:Int)(more:Bool)(p:Nat):nB m e more p false=nR m e p:=by unfold nB nR;simp
theorem KJ{m:Nat}{e:Int}{more:Bool}{p:Nat}(hm:more=true->p<ia m):nB m e more p true=nR m e p+if rz m e more p=true then 1 else 0:=by
 unfold nB nR rz;by_cases hU:jk m e p<=e
 .have hmo:more=false:=by
   cases Md:more with
   |false=>rfl
   |true=>have:=hm Md;unfold jk at hU;omega
  simp[hU,hmo]
 .simp [hU]
theorem aiP(m:Nat)(e:Int)(more up:Bool)(p:Nat)(h1:(gU m).length<=256)(h0:m≠0)(il:8<=p)(ic:p<=512)(kQ:-45000<=e)(kx:e<=45000)(hm:more=true->p<ia m):gV 220 [(.agg [(gX (gU m)),(iP e),(bP more)]),iP (p:Int),bP up] (.iw [gY (jP false m e more p up),iP (jG false m e more p up)]):=by
 have Tg:=QG (e:=e) true h0 hm (show 1<=p by omega);have uZ:=QG (e:=e) false h0 hm (show 1<=p by omega);have hb:=vD h1;have po:=mR h0;have hqb:=QF (e:=e) (more:=more) (p:=p) (up:=true) h0;have hqa:=QF (e:=e) (more:=more) (p:=p) (up:=false) h0;rw[abj]at uZ hqa;have hu1:-16384<=(jk m e p):=by unfold jk;omega
 have hu2:(jk m e p)<=60000:=by unfold jk;omega
 have hu3:(jk m e p)<=max (e+8192) (-16384):=by unfold jk;omega
 have fa:(gU (nR m e p)).length<=256:=ng ae;have fb:(gU (nB m e more p true)).length<=256:=ng ae;have f1:(gU 1).length<=256:=ng ag;cases up with
 |true=>
  exact tr true Tryz.call220 Tryz.func220 (chain [.c (r9 _ ae:gV 194 [(gX (gU m))] _),iq (e+(ia m:Int)) ae,iq ((e+(ia m:Int))-(p:Int)) ae,.o 21 (.int (by unfold jk;split<;>omega):PV.le (.e (iP (if(-16384)>((e+(ia m:Int))-(p:Int))then(-16384)else((e+(ia m:Int))-(p:Int))))) (.e (iP (jk m e p)))),.j 58 ⟨84,true,[(9,.e (gX (gU (nR m e p)))),(10,.e (bP (rz m e more p))),(8,.e (iP (jk m e p))),(6,.box 6 0),(1,.e (iP p)),(2,.e (bP true))],[(6,.cells 31 [(bP false),(.v (.slice none 0 0)),(iP 0)])]⟩
   (.w ((jk m e p)<=e)
    (fun m1=>by
     have fx:(gU (m*2^(e-(jk m e p)).toNat)).length<=256:=by have:=fa;rwa[show nR m e p=_ from aR m1]at this
     exact chain [.v 29 (.bool (aS m1)),iq (e-(jk m e p)) ae,.o 35 (.int ae:PV.le (.e (iP (e-(jk m e p)))) (.e (iP ((e-(jk m e p)).toNat:Int)))),.c (vj m ((e-(jk m e p)).toNat:Nat) ae ae ae)]<|.e (chain [.o 9 (.e (.iS (by rw[show nR m e p=_ from aR m1])):PV.le (.e (gX (gU (m*2^((e-(jk m e p)).toNat))))) (.e (gX (gU (nR m e p))))),tB 10 (by simp[rz,m1]:more=(rz m e more p))]<|.nil))
    (fun m1=>chain [.v 29 (.bool (aT m1)),iq ((jk m e p)-e) ae,.o 43 (.int ae:PV.le (.e (iP ((jk m e p)-e))) (.e (iP (((jk m e p)-e).toNat:Int)))),.c (NQ m (((jk m e p)-e).toNat:Nat) ae ae)]<|.w (more=true)
     (fun m2=>chain [tB 48 (m2)]<|.e (chain [.o 9 (.e (.iS (by rw[show nR m e p=_ from aQ m1])):PV.le (.e (gX (gU (m/2^(((jk m e p)-e).toNat))))) (.e (gX (gU (nR m e p))))),tB 10 (by simp[rz,m1,m2]:true=(rz m e more p))]<|.nil))
     (fun m2=>chain [tB 48 (aM m2)]<|.e (chain [.o 9 (.e (.iS (by rw[show nR m e p=_ from aQ m1])):PV.le (.e (gX (gU (m/2^(((jk m e p)-e).toNat))))) (.e (gX (gU (nR m e p))))),tB 10 (by simp[rz,m1,m2]:(decide (m%2^(((jk m e p)-e).toNat)≠0))=(rz m e more p))]<|.nil)))),.j 110 ⟨84,true,[(9,.e (gX (gU (nB m e more p true)))),(8,.e (iP (jk m e p))),(6,.box 6 0),(1,.e (iP p)),(2,.e (bP true))],[(6,.cells 31 [(bP false),(.v (.slice none 0 0)),(iP 0)])]⟩
   (.w (rz m e more p=true)
    (fun m1=>by
     have fx:(gU (nR m e p+1)).length<=256:=by have:=fb;rwa[KJ hm,aR m1]at this
     exact chain [.v 55 (.bool (m1)),.o 58 (.e rN:PV.le (.e OI) (.e (gX (gU 1)))),.c (I1 _ _ ae ae ae:gV 218 [(gX (gU (nR m e p))),(gX (gU 1))] _)]<|.e (chain [.o 9 (.e (.iS (by rw[KJ hm,aR m1])):PV.le (.e (gX (gU ((nR m e p)+1)))) (.e (gX (gU (nB m e more p true)))))]<|.nil))
    (fun m1=>chain [.v 55 (.bool (aM m1))]<|.e (chain [.o 9 (.e (.iS (by rw[KJ hm,aQ m1,bt])):PV.le (.e (gX (gU (nR m e p)))) (.e (gX (gU (nB m e more p true)))))]<|.nil))),.c (r9 _ ae:gV 194 [(gX (gU (nB m e more p true)))] _),iq ((ia (nB m e more p true):Int)+(jk m e p)) ae]<|.w (16384<((ia (nB m e more p true):Int)+(jk m e p)))
   (fun k1=>by
    have w1:=(Tg.resolve_left (fun h=>absurd k1 ae)).2.resolve_right (fun h=>absurd h.1 ag);exact chain [tB 66 (aS k1),.o 68 (.e vu:PV.le (.e (.agg [(bP false),(.v (.slice none 0 0)),(iP 0)])) (.e (gY jx)))]<|rQ (.iw [(gY jx),(iP 9)]) (.iw [gY (jP false m e more p true),iP (jG false m e more p true)]) (by rw[w1.2.1,w1.2.2]))
   (fun k1=>by
    have w1:=Tg.resolve_right (fun h=>k1 h.1);have hd:mP (canon false (nB m e more p true) (jk m e p)):=by rw[<-w1.2.1];exact(mi false m e more p true ae ae).range
    exact chain [tB 66 (aT k1),.c (AY _ _ _ ae ae ae af:gV 262 [(bP false),(gX (gU (nB m e more p true))),(iP (jk m e p))] _)]<|rQ (.iw [(gY (canon false (nB m e more p true) (jk m e p))),(iP 0)]) (.iw [gY (jP false m e more p true),iP (jG false m e more p true)]) (by rw[w1.2.1,w1.2.2]))) ah 
 |false=>
  exact tr true Tryz.call220 Tryz.func220 (chain [.c (r9 _ ae:gV 194 [(gX (gU m))] _),iq (e+(ia m:Int)) ae,iq ((e+(ia m:Int))-(p:Int)) ae,.o 21 (.int (by unfold jk;split<;>omega):PV.le (.e (iP (if(-16384)>((e+(ia m:Int))-(p:Int))then(-16384)else((e+(ia m:Int))-(p:Int))))) (.e (iP (jk m e p)))),.j 58 ⟨84,true,[(9,.e (gX (gU (nR m e p)))),(10,.e (bP (rz m e more p))),(8,.e (iP (jk m e p))),(6,.box 6 0),(1,.e (iP p)),(2,.e (bP false))],[(6,.cells 31 [(bP false),(.v (.slice none 0 0)),(iP 0)])]⟩
   (.w ((jk m e p)<=e)
    (fun m1=>by
     have fx:(gU (m*2^(e-(jk m e p)).toNat)).length<=256:=by have:=fa;rwa[show nR m e p=_ from aR m1]at this
     exact chain [.v 29 (.bool (aS m1)),iq (e-(jk m e p)) ae,.o 35 (.int ae:PV.le (.e (iP (e-(jk m e p)))) (.e (iP ((e-(jk m e p)).toNat:Int)))),.c (vj m ((e-(jk m e p)).toNat:Nat) ae ae ae)]<|.e (chain [.o 9 (.e (.iS (by rw[show nR m e p=_ from aR m1])):PV.le (.e (gX (gU (m*2^((e-(jk m e p)).toNat))))) (.e (gX (gU (nR m e p))))),tB 10 (by simp[rz,m1]:more=(rz m e more p))]<|.nil))
    (fun m1=>chain [.v 29 (.bool (aT m1)),iq ((jk m e p)-e) ae,.o 43 (.int ae:PV.le (.e (iP ((jk m e p)-e))) (.e (iP (((jk m e p)-e).toNat:Int)))),.c (NQ m (((jk m e p)-e).toNat:Nat) ae ae)]<|.w (more=true)
     (fun m2=>chain [tB 48 (m2)]<|.e (chain [.o 9 (.e (.iS (by rw[show nR m e p=_ from aQ m1])):PV.le (.e (gX (gU (m/2^(((jk m e p)-e).toNat))))) (.e (gX (gU (nR m e p))))),tB 10 (by simp[rz,m1,m2]:true=(rz m e more p))]<|.nil))
     (fun m2=>chain [tB 48 (aM m2)]<|.e (chain [.o 9 (.e (.iS (by rw[show nR m e p=_ from aQ m1])):PV.le (.e (gX (gU (m/2^(((jk m e p)-e).toNat))))) (.e (gX (gU (nR m e p))))),tB 10 (by simp[rz,m1,m2]:(decide (m%2^(((jk m e p)-e).toNat)≠0))=(rz m e more p))]<|.nil)))),.c (r9 _ ae:gV 194 [(gX (gU (nR m e p)))] _),iq ((ia (nR m e p):Int)+(jk m e p)) ae]<|.w (16384<((ia (nR m e p):Int)+(jk m e p)))
   (fun k1=>by
    have w1:=(uZ.resolve_left (fun h=>absurd k1 ae)).2.resolve_left (fun h=>absurd h.1 ag);have hd:mP (canon false ((1*2^p)-1) (16384-(p:Int))):=by rw[bJ,<-w1.2.1];exact(mi false m e more p false ae ae).range
    have g0:ia (1*2^p)=p+1:=by rw[bJ];exact uD (aU _) (et ag ae)
    have g1:(gU 1).length<=256:=ng ag;have g2:(gU (1*2^p)).length<=256:=ng ae;have g4:1<=1*2^p:=by rw[bJ];exact aY ag 
    have g3:(gU ((1*2^p)-1)).length<=256:=ng (by have:=sQ (dj (1*2^p) 1);omega);exact chain [tB 66 (aS k1),.o 70 (.e rN:PV.le (.e OI) (.e (gX (gU 1)))),.c (vj 1 p ae ae ae),.o 73 (.e rN:PV.le (.e OI) (.e (gX (gU 1)))),.c (Fj _ _ ae ae ae:gV 219 [(gX (gU (1*2^p))),(gX (gU 1))] _),iq (16384-(p:Int)) ae,.c (AY _ _ _ ae ae ae af:gV 262 [(bP false),(gX (gU ((1*2^p)-1))),(iP (16384-(p:Int)))] _)]<|rQ (.iw [(gY (canon false ((1*2^p)-1) (16384-(p:Int)))),(iP 0)]) (.iw [gY (jP false m e more p false),iP (jG false m e more p false)]) (by rw[w1.2.1,w1.2.2,bJ]))
   (fun k1=>by
    have w1:=uZ.resolve_right (fun h=>k1 h.1);have hd:mP (canon false (nR m e p) (jk m e p)):=by rw[<-w1.2.1];exact(mi false m e more p false ae ae).range
    exact chain [tB 66 (aT k1),.c (AY _ _ _ ae ae ae af:gV 262 [(bP false),(gX (gU (nR m e p))),(iP (jk m e p))] _)]<|rQ (.iw [(gY (canon false (nR m e p) (jk m e p))),(iP 0)]) (.iw [gY (jP false m e more p false),iP (jG false m e more p false)]) (by rw[w1.2.1,w1.2.2]))) ah 
theorem aiQ(up:Bool)(p:Nat)(il:8<=p)(ic:p<=512):gV 220 [(.agg [(gX (gU 0)),(iP 0),(bP false)]),iP (p:Int),bP up] (.iw [gY (jP false 0 0 false p up),iP (jG false 0 0 false p up)]):=by
 have hU:jk 0 0 p = -(p:Int):=by unfold jk;rw[qR];omega
 have hK:ja 0 0 p=0:=by unfold ja;rw[qR];omega
 have hQ:kD 0 0 false p up=0:=by unfold kD;rw[hK];simp
 have hO:lN 0 0 false p up=false:=by unfold lN;rw[hQ];simp
 have qy:(false != up)=up:=by cases up<;>rfl
 have k2:jP false 0 0 false p up=jx:=by unfold jP;rw[qy,hO,aQ ag,hQ];rfl
 have k3:jG false 0 0 false p up=0:=by unfold jG;rw[qy,hO];rfl
 have lz:ia 0=0:=rfl;have l0:(gU 0).length<=256:=by rw[nh];decide
 have l1:(gU (0*2^(0-jk 0 0 p).toNat)).length<=256:=by rw[ch];exact l0
 have lb:ia (0*2^(0-jk 0 0 p).toNat)=0:=by rw[ch];rfl
 have hd:mP (canon false (0*2^(0-jk 0 0 p).toNat) (jk 0 0 p)):=by rw[ch];exact .inl rfl
 by_cases Bp:up=true
 .exact tr true Tryz.call220 Tryz.func220 (chain [.c (r9 _ ae:gV 194 [(gX (gU 0))] _),iq (0+(ia 0:Int)) ae,iq ((0+(ia 0:Int))-(p:Int)) ae,.o 21 (.int (by unfold jk;rw[qR];split<;>omega):PV.le (.e (iP (if(-16384)>((0+(ia 0:Int))-(p:Int))then(-16384)else((0+(ia 0:Int))-(p:Int))))) (.e (iP (jk 0 0 p)))),tT 29 ((jk 0 0 p)<=0) ae,iq (0-(jk 0 0 p)) ae,.o 35 (.int ae:PV.le (.e (iP (0-(jk 0 0 p)))) (.e (iP ((0-(jk 0 0 p)).toNat:Int)))),.c (vj 0 ((0-(jk 0 0 p)).toNat:Nat) ae ae ae),tB 52 (Bp:up=true),.c (r9 _ ae:gV 194 [(JS p)] _),
   iq ((ia (0*2^((0-(jk 0 0 p)).toNat)):Int)+(jk 0 0 p)) ae,tF 66 (16384<((ia (0*2^((0-(jk 0 0 p)).toNat)):Int)+(jk 0 0 p))) ae,.c (AY _ _ _ ae ae ae af:gV 262 [(bP false),(JS p),(iP (jk 0 0 p))] _)]<|rQ (.iw [(gY (canon false (0*2^((0-(jk 0 0 p)).toNat)) (jk 0 0 p))),(iP 0)]) (.iw [gY (jP false 0 0 false p up),iP (jG false 0 0 false p up)]) (by rw[k2,k3,ch];rfl)) ah 
 .exact tr true Tryz.call220 Tryz.func220 (chain [.c (r9 _ ae:gV 194 [(gX (gU 0))] _),iq (0+(ia 0:Int)) ae,iq ((0+(ia 0:Int))-(p:Int)) ae,.o 21 (.int (by unfold jk;rw[qR];split<;>omega):PV.le (.e (iP (if(-16384)>((0+(ia 0:Int))-(p:Int))then(-16384)else((0+(ia 0:Int))-(p:Int))))) (.e (iP (jk 0 0 p)))),tT 29 ((jk 0 0 p)<=0) ae,iq (0-(jk 0 0 p)) ae,.o 35 (.int ae:PV.le (.e (iP (0-(jk 0 0 p)))) (.e (iP ((0-(jk 0 0 p)).toNat:Int)))),.c (vj 0 ((0-(jk 0 0 p)).toNat:Nat) ae ae ae),tB 52 (by simpa using Bp:up=false),.c (r9 _ ae:gV 194 [(JS p)] _),
   iq ((ia (0*2^((0-(jk 0 0 p)).toNat)):Int)+(jk 0 0 p)) ae,tF 66 (16384<((ia (0*2^((0-(jk 0 0 p)).toNat)):Int)+(jk 0 0 p))) ae,.c (AY _ _ _ ae ae ae af:gV 262 [(bP false),(JS p),(iP (jk 0 0 p))] _)]<|rQ (.iw [(gY (canon false (0*2^((0-(jk 0 0 p)).toNat)) (jk 0 0 p))),(iP 0)]) (.iw [gY (jP false 0 0 false p up),iP (jG false 0 0 false p up)]) (by rw[k2,k3,ch];rfl)) ah 
theorem Dp(m:Nat)(e:Int)(more up:Bool)(p:Nat)(h1:(gU m).length<=256)(h0:m≠0\/m=0/\e=0/\more=false)(il:8<=p)(ic:p<=512)(kQ:-45000<=e)(kx:e<=45000)(hm:more=true->p<ia m):gV 220 [(.agg [(gX (gU m)),(iP e),(bP more)]),iP (p:Int),bP up] (.iw [gY (jP false m e more p up),iP (jG false m e more p up)]):=by
 rcases h0 with h0|⟨rfl,rfl,rfl⟩
 .exact aiP m e more up p h1 h0 il ic kQ kx hm
 .exact aiQ up p il ic
open Go.RowKit Fp Pu
def lh(p:Int):Bool:=decide (8<=p)&&decide (p<=512)
theorem oZ{p:Int}:lh p=true↔8<=p/\p<=512:=by simp[lh]
theorem u5(p:Int):gV 87 [iP p] (bP (lh p)):=by
 by_cases h:8<=p
 .exact tr true Tryz.call87 Tryz.func87 (chain [tB 4 (aS h)]<|rQ (bP (decide (p<=512))) (bP (lh p)) (by simp[lh,h])) ah 
 .exact tr true Tryz.call87 Tryz.func87 (chain [tB 4 (aT h)]<|rQ (bP false) (bP (lh p)) (by simp[lh,h])) ah 
theorem NU(p:Int):gV 48 [iP p] (bP (lh p)):=by
 by_cases h:8<=p
 .exact tr true Tryz.call48 Tryz.func48 (chain [tB 4 (aS h)]<|rQ (bP (decide (p<=512))) (bP (lh p)) (by simp[lh,h])) ah 
 .exact tr true Tryz.call48 Tryz.func48 (chain [tB 4 (aT h)]<|rQ (bP false) (bP (lh p)) (by simp[lh,h])) ah 
theorem aiS(p:Int):gV 214 [iP p] (bP (lh p)):=by
 by_cases h:8<=p
 .exact tr true Tryz.call214 Tryz.func214 (chain [tB 4 (aS h)]<|rQ (bP (decide (p<=512))) (bP (lh p)) (by simp[lh,h])) ah 
 .exact tr true Tryz.call214 Tryz.func214 (chain [tB 4 (aT h)]<|rQ (bP false) (bP (lh p)) (by simp[lh,h])) ah 
open Go.RowKit Fp Pu
def Wj(l:List Dy)(p:Nat)(i:Nat):PS:=⟨20,true,[(9,.e (iP i)),(8,.e (iP l.length)),(7,.e (np l)),(0,.e (iP p))],[]⟩
theorem FL(neg:Bool)(m:Nat)(e:Int)(more up:Bool)(p:Nat)(h1:(gU m).length<=256)(h0:m≠0\/m=0/\e=0/\more=false)(il:8<=p)(ic:p<=512)(kQ:-45000<=e)(kx:e<=45000)(hm:more=true->p<ia m):gV 180 [(bP neg),(.agg [(gX (gU m)),(iP e),(bP more)]),(iP p),(bP up)] (.iw [gY (jP neg m e more p up),iP (jG neg m e more p up)]):=by
 cases neg with
 |true=>
  have hs:=QN true m e more p up;change _/\(jG false m e more p (!(up==true))=0->_->iF (jP false m e more p (!(up==true)))=_)/\((jG false m e more p (!(up==true))≠0\/_)->jP false m e more p (!(up==true))=_)at hs;have hE:jG true m e more p up=jG false m e more p (!(up==true)):=hs.1;have hv:=mi false m e more p (!(up==true)) (show 1<=p by omega) ae;by_cases hz:jG false m e more p (!(up==true))=0
  .exact tr true Tryz.call180 Tryz.func180 (chain [.c (Dp _ _ _ _ _ ae af ae ae ae ae af:gV 220 [(.agg [(gX (gU m)),(iP e),(bP more)]),(iP p),(bP (!(up==true)))] _),tB 22 (by rw[hz];rfl:((jG false m e more p (!(up==true)))==0)=true),.c (xR _ af:gV 191 [(gY (jP false m e more p (!(up==true))))] _)]<|rQ (.iw [(gY (iF (jP false m e more p (!(up==true))))),(iP (jG false m e more p (!(up==true))))]) (.iw [gY (jP true m e more p up),iP (jG true m e more p up)]) (by rw[hs.2.1 hz rfl,hE])) ah 
  .exact tr true Tryz.call180 Tryz.func180 (chain [.c (Dp _ _ _ _ _ ae af ae ae ae ae af:gV 220 [(.agg [(gX (gU m)),(iP e),(bP more)]),(iP p),(bP (!(up==true)))] _),tB 22 (by simpa using hz:((jG false m e more p (!(up==true)))==0)=false)]<|rQ (.iw [(gY (jP false m e more p (!(up==true)))),(iP (jG false m e more p (!(up==true))))]) (.iw [gY (jP true m e more p up),iP (jG true m e more p up)]) (by rw[hs.2.2 (.inl hz),hE])) ah 
 |false=>
  have hs:=QN false m e more p up;change _/\(jG false m e more p (!(up==false))=0->_->iF (jP false m e more p (!(up==false)))=_)/\((jG false m e more p (!(up==false))≠0\/_)->jP false m e more p (!(up==false))=_)at hs;have hE:jG false m e more p up=jG false m e more p (!(up==false)):=hs.1;have hv:=mi false m e more p (!(up==false)) (show 1<=p by omega) ae;by_cases hz:jG false m e more p (!(up==false))=0
  .exact tr true Tryz.call180 Tryz.func180 (chain [.c (Dp _ _ _ _ _ ae af ae ae ae ae af:gV 220 [(.agg [(gX (gU m)),(iP e),(bP more)]),(iP p),(bP (!(up==false)))] _),tB 22 (by rw[hz];rfl:((jG false m e more p (!(up==false)))==0)=true)]<|rQ (.iw [(gY (jP false m e more p (!(up==false)))),(iP (jG false m e more p (!(up==false))))]) (.iw [gY (jP false m e more p up),iP (jG false m e more p up)]) (by rw[hs.2.2 (.inr rfl),hE])) ah 
  .exact tr true Tryz.call180 Tryz.func180 (chain [.c (Dp _ _ _ _ _ ae af ae ae ae ae af:gV 220 [(.agg [(gX (gU m)),(iP e),(bP more)]),(iP p),(bP (!(up==false)))] _),tB 22 (by simpa using hz:((jG false m e more p (!(up==false)))==0)=false)]<|rQ (.iw [(gY (jP false m e more p (!(up==false)))),(iP (jG false m e more p (!(up==false))))]) (.iw [gY (jP false m e more p up),iP (jG false m e more p up)]) (by rw[hs.2.2 (.inl hz),hE])) ah 
theorem aiR(d:Dy):gV 215 [(gY d)] (.agg [(gX (gU d.m)),(iP d.e),(bP false)]):=by
 exact tr true Tryz.call215 Tryz.func215 (.nil) ah 
theorem Wk(p:Nat)(l:List Dy)(hl:l.length<=1000)(hv:∀ i,i<l.length->(l.getD i jx).ib)(il:8<=p)(ic:p<=512):gV 177 [(iP p),(np l)] (iP 0):=by
 exact tr true Tryz.call177 Tryz.func177 (chain [.s (Sp.jv (Wj l p) 0 l.length ae (fun i hi pG=>by
    have Tp:=hv i pG;exact iB (chain [tT 10 ((i:Int)<(l.length:Int)) ae,iX ((i:Int)) (l.length) ae,.c (qg _ af:gV 68 [(gY (l.getD i jx))] _),iq ((i:Int)+1) ae]<|.nil) ah)
  (fun hi=>by
    exact iB (chain [tF 10 ((l.length:Int)<(l.length:Int)) ae]<|.nil) ah) ak:jq 2 Tryz.f177 (Wj l p 0) (.exit 0) ⟨20,true,[(0,.e (iP p))],[]⟩) .nil,.c (aiS _:gV 214 [(iP p)] _),tB 18 (oZ.2 ⟨ae,ae⟩:(lh (p:Int))=true)]<|.nil) ah 
theorem NO(p:Nat)(a:Dy)(ha:a.ib)(il:8<=p)(ic:p<=512):gV 177 [iP (p:Int),np [a]] (iP 0):=
 Wk p [a] aj (fun i hi=>(match i,hi with
  | 0,_=>ha
  |n+1,hi=>absurd hi aj)) il ic
theorem wm(p:Nat)(a b:Dy)(ha:a.ib)(hb:b.ib)(il:8<=p)(ic:p<=512):gV 177 [iP (p:Int),np [a,b]] (iP 0):=
 Wk p [a,b] aj (fun i hi=>(match i,hi with
  | 0,_=>ha
  | 1,_=>hb
  |n+2,hi=>absurd hi aj)) il ic
theorem Jm(d:Dy)(p:Nat)(up:Bool)(hd:d.ib)(il:8<=p)(ic:p<=512):gV 178 [(gY d),(iP p),(bP up)] (.iw [gY (jh d p up),iP (jz d p up)]):=by
 have hl:=hd.gU;have hz:d.m≠0\/d.m=0/\d.e=0/\false=false:=by
  by_cases h:d.m=0
  .rcases hd.canon with q|q
   .exact .inr ⟨h,q.2.2,rfl⟩
   .omega
  .exact .inl h
 have we:-45000<=d.e:=by have:=hd.exp;omega
 have qW:d.e<=45000:=by have:=hd.exp;omega
 have hm:false=true->p<ia d.m:=fun h=>by cases h
 exact tr true Tryz.call178 Tryz.func178 (chain [.o 11 (.e (KV _):PV.le (.e (.sl true 1 3 fun i_ j_=>(jo d).getD (i_*3+j_) (.v (.bool false)))) (.e (np [d]))),.c (NO _ _ af ae ae:gV 177 [(iP p),(np [d])] _),tB 14 (ag:((0:Int) != 0)=false),.c (aiR _:gV 215 [(gY d)] _),.c (FL _ _ _ _ _ _ ae af ae ae ae ae af:gV 180 [(bP d.neg),(.agg [(gX (gU d.m)),(iP d.e),(bP false)]),(iP p),(bP up)] _)]<|.nil) ah 
theorem Cl{a b:Nat}:jY a b<0↔a<b:=by
 unfold jY;split
 .simp_all
 .split<;>simp_all
theorem Jn(a b:Dy)(p:Nat)(ha:a.ib)(hb:b.ib)(a0:a.m≠0)(b0:b.m≠0)(ht:b.iu<=a.iu)(il:8<=p)(ic:p<=512):gV 179 [(gY a),(gY b),(iP p)] (.iw [(.agg [(gX (gU (lP a b p))),(iP (jl a b p)),(bP (mX a b p))]),bP (o9 a b p)]):=by
 have sz:=JI ha hb a0 b0 ht ic;have sp:=Ov ha hb a0 b0 ht ic;obtain⟨l1,l2,l3,l4,l5,l6,l7,l8,l9⟩:=sz;obtain⟨l10,l11,l12⟩:=sp;obtain⟨r1,r2,r3⟩:=NY a b p;have va:=ha.gU;have vb:=hb.gU;have xa:=ha.exp;have xb:=hb.exp;have ta:=F3 a0;have tb:=F3 b0;have ba:=vD va;have bb:=vD vb;have z1:(gU (a.m*2^((a.e-(jl a b p)).toNat))).length<=256:=ng (show ia (nE a b p)<=_ by omega);have zy:(gU (mH b (jl a b p))).length<=256:=ng ae;have z3:(gU (mG a b p)).length<=256:=ng ae;have zm:(gU (lP a b p)).length<=256:=ng ae;have z5:(gU 1).length<=256:=ng ag;exact tr true Tryz.call179 Tryz.func179 (chain [.c (oC _ af:gV 130 [(gY a)] _),iq ((Dy.iu a)-(p:Int)) ae,iq (((Dy.iu a)-(p:Int))-8) ae,.c (oC _ af:gV 130 [(gY a)] _),.c (oC _ af:gV 130 [(gY b)] _),iq ((Dy.iu a)-(Dy.iu b)) ae,.j 62 ⟨109,true,[(8,.e (iP (jl a b p))),(6,.box 6 0),(4,.box 4 0),(3,.box 3 0)],[(6,.cells 148 [(.v (.slice none 0 0)),(iP 0),(bP false)]),(4,.cells 31 (jo b)),(3,.cells 31 (jo a))]⟩
   (.w (((Dy.iu a)-(Dy.iu b))<=2)
    (fun m1=>chain [.v 31 (.bool (aS m1))]<|.e (chain [.o 8 (.int (by unfold jl;rw[aR m1];split<;>split<;>omega):PV.le (.e (iP (if b.e<(if(((Dy.iu a)-(p:Int))-8)<a.e then(((Dy.iu a)-(p:Int))-8)else a.e)then b.e else(if(((Dy.iu a)-(p:Int))-8)<a.e then(((Dy.iu a)-(p:Int))-8)else a.e)))) (.e (iP (jl a b p))))]<|.nil))
    (fun m1=>chain [.v 31 (.bool (aT m1))]<|.e (chain [.o 8 (.int (by unfold jl;rw[aQ m1];split<;>omega):PV.le (.e (iP (if(((Dy.iu a)-(p:Int))-8)<a.e then(((Dy.iu a)-(p:Int))-8)else a.e))) (.e (iP (jl a b p))))]<|.nil))),
  iq (a.e-(jl a b p)) ae,.o 41 (.int ae:PV.le (.e (iP (a.e-(jl a b p)))) (.e (iP ((a.e-(jl a b p)).toNat:Int)))),.c (vj a.m ((a.e-(jl a b p)).toNat) ae ae ae),.j 92 ⟨109,true,[(10,.e (gX (gU (mH b (jl a b p))))),(11,.e (bP (nx b (jl a b p)))),(9,.e (gX (gU (a.m*2^((a.e-(jl a b p)).toNat))))),(8,.e (iP (jl a b p))),(6,.box 6 0),(4,.box 4 0),(3,.box 3 0)],[(6,.cells 148 [(.v (.slice none 0 0)),(iP 0),(bP false)]),(4,.cells 31 (jo b)),(3,.cells 31 (jo a))]⟩
   (.w ((jl a b p)<=b.e)
    (fun m1=>by
     have z2:(gU (b.m*2^((b.e-(jl a b p)).toNat))).length<=256:=by have:=zy;rwa[show mH b (jl a b p)=_ from aR m1]at this
     exact chain [.v 46 (.bool (aS m1)),iq (b.e-(jl a b p)) ae,.o 52 (.int ae:PV.le (.e (iP (b.e-(jl a b p)))) (.e (iP ((b.e-(jl a b p)).toNat:Int)))),.c (vj b.m ((b.e-(jl a b p)).toNat) ae ae ae)]<|.e (chain [.o 10 (.e (.iS (by rw[show mH b (jl a b p)=_ from aR m1])):PV.le (.e (gX (gU (b.m*2^((b.e-(jl a b p)).toNat))))) (.e (gX (gU (mH b (jl a b p)))))),tB 11 (by simp[nx,m1]:false=(nx b (jl a b p)))]<|.nil))
    (fun m1=>chain [.v 46 (.bool (aT m1)),iq ((jl a b p)-b.e) ae,.o 60 (.int ae:PV.le (.e (iP ((jl a b p)-b.e))) (.e (iP (((jl a b p)-b.e).toNat:Int)))),.c (NQ b.m (((jl a b p)-b.e).toNat) ae ae)]<|.e (chain [.o 10 (.e (.iS (by rw[show mH b (jl a b p)=_ from aQ m1])):PV.le (.e (gX (gU (b.m/2^(((jl a b p)-b.e).toNat))))) (.e (gX (gU (mH b (jl a b p)))))),tB 11 (by simp[nx,m1]:(decide (b.m%2^(((jl a b p)-b.e).toNat)≠0))=(nx b (jl a b p)))]<|.nil)))]<|.w (a.neg=b.neg)
  (fun k1=>by
   have eT:o9 a b p=false:=by unfold o9;simp[k1]
   have eY:mG a b p=mH b (jl a b p):=by unfold mG;simp[k1]
   have eM:lP a b p=nE a b p+mH b (jl a b p):=by unfold lP;rw[aR k1,eY]
   have eS:mX a b p=nx b (jl a b p):=by unfold mX;rw[eT];simp
   have z4:(gU ((a.m*2^((a.e-(jl a b p)).toNat))+mH b (jl a b p))).length<=256:=by have:=zm;rwa[eM]at this
   exact chain [tB 68 (aK k1),.c (I1 _ _ ae ae ae:gV 218 [(gX (gU (a.m*2^((a.e-(jl a b p)).toNat)))),(gX (gU (mH b (jl a b p))))] _)]<|rQ (.iw [(.agg [(gX (gU ((a.m*2^((a.e-(jl a b p)).toNat))+(mH b (jl a b p))))),(iP (jl a b p)),(bP (nx b (jl a b p)))]),(bP false)]) (.iw [(.agg [(gX (gU (lP a b p))),(iP (jl a b p)),(bP (mX a b p))]),bP (o9 a b p)]) (by rw[eM,eS,eT];rfl))
  (fun k1=>chain [tB 68 (aJ k1),.j 158 ⟨109,true,[(10,.e (gX (gU (mG a b p)))),(11,.e (bP (nx b (jl a b p)))),(9,.e (gX (gU (a.m*2^((a.e-(jl a b p)).toNat))))),(8,.e (iP (jl a b p))),(6,.box 6 0)],[(6,.cells 148 [(.v (.slice none 0 0)),(iP 0),(bP false)])]⟩
   (.w (nx b (jl a b p)=true)
    (fun m1=>by
     have z6:(gU ((mH b (jl a b p))+1)).length<=256:=ng (by rw[show(mH b (jl a b p))+1=mG a b p by(unfold mG;simp[k1,m1])];omega);exact chain [.v 79 (.bool (m1)),.o 82 (.e rN:PV.le (.e (.sl false 1 1 fun i_ j_=>[(.v (.int .u32 1))].getD (i_*1+j_) (.v (.bool false)))) (.e (gX (gU 1)))),.c (I1 _ _ ae ae ae:gV 218 [(gX (gU (mH b (jl a b p)))),(gX (gU 1))] _)]<|.e (chain [.o 10 (.e (.iS (by unfold mG;simp[k1,m1])):PV.le (.e (gX (gU ((mH b (jl a b p))+1)))) (.e (gX (gU (mG a b p)))))]<|.nil))
    (fun m1=>chain [.v 79 (.bool (aM m1))]<|.e (chain [.o 10 (.e (.iS (by unfold mG;simp[k1,m1])):PV.le (.e (gX (gU (mH b (jl a b p))))) (.e (gX (gU (mG a b p)))))]<|.nil))),.c (yH _ _ ae ae:gV 131 [(gX (gU (a.m*2^((a.e-(jl a b p)).toNat)))),(gX (gU (mG a b p)))] _)]<|.w ((jY (a.m*2^((a.e-(jl a b p)).toNat)) (mG a b p))<0)
   (fun k2=>by
    have hc:nE a b p<mG a b p:=Cl.1 k2;have eT:o9 a b p=true:=by unfold o9;simp[k1,hc]
    have eM:lP a b p=mG a b p-nE a b p:=by unfold lP;rw[aQ k1,aR hc]
    have eS:mX a b p=false:=by unfold mX;rw[eT];simp
    have z4:(gU (mG a b p-(a.m*2^((a.e-(jl a b p)).toNat)))).length<=256:=by have:=zm;rwa[eM]at this
    have z7:(a.m*2^((a.e-(jl a b p)).toNat))<=mG a b p:=cW hc;exact chain [tB 89 (aS k2),.c (Fj _ _ ae ae ae:gV 219 [(gX (gU (mG a b p))),(gX (gU (a.m*2^((a.e-(jl a b p)).toNat))))] _)]<|rQ (.iw [(.agg [(gX (gU ((mG a b p)-(a.m*2^((a.e-(jl a b p)).toNat))))),(iP (jl a b p)),(bP false)]),(bP true)]) (.iw [(.agg [(gX (gU (lP a b p))),(iP (jl a b p)),(bP (mX a b p))]),bP (o9 a b p)]) (by rw[eM,eS,eT];rfl))
   (fun k2=>by
    have hc:¬nE a b p<mG a b p:=fun h=>k2 (Cl.2 h)
    have eT:o9 a b p=false:=by unfold o9;simp[hc]
    have eM:lP a b p=nE a b p-mG a b p:=by unfold lP;rw[aQ k1,aQ hc]
    have eS:mX a b p=nx b (jl a b p):=by unfold mX;rw[eT];simp
    have z4:(gU ((a.m*2^((a.e-(jl a b p)).toNat))-mG a b p)).length<=256:=by have:=zm;rwa[eM]at this
    have z7:mG a b p<=(a.m*2^((a.e-(jl a b p)).toNat)):=fi hc;exact chain [tB 89 (aT k2),.c (Fj _ _ ae ae ae:gV 219 [(gX (gU (a.m*2^((a.e-(jl a b p)).toNat)))),(gX (gU (mG a b p)))] _)]<|rQ (.iw [(.agg [(gX (gU ((a.m*2^((a.e-(jl a b p)).toNat))-(mG a b p)))),(iP (jl a b p)),(bP (nx b (jl a b p)))]),(bP false)]) (.iw [(.agg [(gX (gU (lP a b p))),(iP (jl a b p)),(bP (mX a b p))]),bP (o9 a b p)]) (by rw[eM,eS,eT];rfl)))) ah 
open Go.RowKit Fp Pu
theorem AB(p:Nat)(up:Bool):jh jx p up=jx/\jz jx p up=0:=by
 have hK:ja 0 0 p=0:=by unfold ja;rw[qR];omega
 have hQ:∀ o,kD 0 0 false p o=0:=by intro o;unfold kD;rw[hK];simp
 have hO:∀ o,lN 0 0 false p o=false:=by intro o;unfold lN;rw[hQ];simp
 unfold jh jz jP jG;simp only[jx,hO,hQ];exact⟨rfl,rfl⟩
theorem Wf(a b:Dy)(p:Nat)(up:Bool)(ha:a.ib)(hb:b.ib)(il:8<=p)(ic:p<=512):gV 144 [(gY a),(gY b),(iP p),(bP up)] (.iw [gY (jh (iI a b) p up),iP (jz (iI a b) p up)]):=by
 by_cases a0:a.m=0
 .have e1:iI a b=b:=by unfold iI;rw[aR a0]
  exact tr true Tryz.call144 Tryz.func144 (chain [.o 16 (.e (vI _ _):PV.le (.e (.sl true 2 3 fun i_ j_=>(jo a++jo b).getD (i_*3+j_) (.v (.bool false)))) (.e (np [a,b]))),.c (wm _ _ _ af af ae ae:gV 177 [(iP p),(np [a,b])] _),tB 19 (ag:((0:Int) != 0)=false),tB 26 (rM (qN.2 a0):(((gU a.m).length:Int)==0)=true),.c (Jm b p up af ae ae)]<|rQ (.iw [(gY (jh b p up)),(iP (jz b p up))]) (.iw [gY (jh (iI a b) p up),iP (jz (iI a b) p up)]) (by rw[e1])) ah 
 .by_cases b0:b.m=0
  .have e1:iI a b=a:=by unfold iI;rw[aQ a0,aR b0]
   exact tr true Tryz.call144 Tryz.func144 (chain [.o 16 (.e (vI _ _):PV.le (.e (.sl true 2 3 fun i_ j_=>(jo a++jo b).getD (i_*3+j_) (.v (.bool false)))) (.e (np [a,b]))),.c (wm _ _ _ af af ae ae:gV 177 [(iP p),(np [a,b])] _),tB 19 (ag:((0:Int) != 0)=false),tB 26 (nj (pM a0):(((gU a.m).length:Int)==0)=false),tB 37 (rM (qN.2 b0):(((gU b.m).length:Int)==0)=true),.c (Jm a p up af ae ae)]<|rQ (.iw [(gY (jh a p up)),(iP (jz a p up))]) (.iw [gY (jh (iI a b) p up),iP (jz (iI a b) p up)]) (by rw[e1])) ah 
  .by_cases ht:a.iu<b.iu
   .have rH:a.iu<=b.iu:= ae 
    have law:=XI (p:=p) hb ha b0 a0 up;have siz:=JI hb ha b0 a0 rH ic;have prt:=Ov hb ha b0 a0 rH ic;obtain⟨l1,l2,_,_,_,_,_,_,_⟩:=siz;have z1:(gU (lP b a p)).length<=256:=ng ae;have rX:=prt.2.2;have y1:-45000<=jl b a p:= ae ;have y2:jl b a p<=45000:= ae ;by_cases hz:lP b a p=0
    .by_cases hl:mX b a p=true
     .have h0:lP b a p≠0:=by intro q;have:=rX hl;rw[q,qR]at this;omega
      exact absurd hz h0
     .replace hz:lP b a p=0/\mX b a p=false:=⟨hz,by simpa using hl⟩
      have yp:iI a b=jx:=by rw[Ou a0 b0];exact law.1 hz
      exact tr true Tryz.call144 Tryz.func144 (chain [.o 16 (.e (vI _ _):PV.le (.e (.sl true 2 3 fun i_ j_=>(jo a++jo b).getD (i_*3+j_) (.v (.bool false)))) (.e (np [a,b]))),.c (wm _ _ _ af af ae ae:gV 177 [(iP p),(np [a,b])] _),tB 19 (ag:((0:Int) != 0)=false),tB 26 (nj (pM a0):(((gU a.m).length:Int)==0)=false),tB 37 (nj (pM b0):(((gU b.m).length:Int)==0)=false),.c (oC _ af:gV 130 [(gY a)] _),.c (oC _ af:gV 130 [(gY b)] _),tB 48 (aS ht),.c (Jn b a p af af af af af ae ae),tB 61 (rM (qN.2 hz.1):(((gU (lP b a p)).length:Int)==0)=true),tB 64 (hz.2:(mX b a p)=false),.o 67 (.e vu:PV.le (.e (.agg [(bP false),(.v (.slice none 0 0)),(iP 0)])) (.e (gY jx)))]<|rQ (.iw [(gY jx),(iP 0)]) (.iw [gY (jh (iI a b) p up),iP (jz (iI a b) p up)]) (by rw[yp,(AB p up).1,(AB p up).2])) ah 
    .have h0:lP b a p≠0\/lP b a p=0/\jl b a p=0/\mX b a p=false:=.inl hz
     obtain⟨q1,q2⟩:=law.2 (fun q=>hz q.1);rw[<-Ou a0 b0]at q1 q2;exact tr true Tryz.call144 Tryz.func144 (chain [.o 16 (.e (vI _ _):PV.le (.e (.sl true 2 3 fun i_ j_=>(jo a++jo b).getD (i_*3+j_) (.v (.bool false)))) (.e (np [a,b]))),.c (wm _ _ _ af af ae ae:gV 177 [(iP p),(np [a,b])] _),tB 19 (ag:((0:Int) != 0)=false),tB 26 (nj (pM a0):(((gU a.m).length:Int)==0)=false),tB 37 (nj (pM b0):(((gU b.m).length:Int)==0)=false),.c (oC _ af:gV 130 [(gY a)] _),.c (oC _ af:gV 130 [(gY b)] _),tB 48 (aS ht),.c (Jn b a p af af af af af ae ae),tB 61 (nj (pM hz):(((gU (lP b a p)).length:Int)==0)=false),.c (FL (! (b.neg==(o9 b a p))) (lP b a p) (jl b a p) (mX b a p) up p ae af ae ae ae ae af)]<|rQ (.iw [(gY (jP (!(b.neg==(o9 b a p))) (lP b a p) (jl b a p) (mX b a p) p up)),(iP (jG (!(b.neg==(o9 b a p))) (lP b a p) (jl b a p) (mX b a p) p up))]) (.iw [gY (jh (iI a b) p up),iP (jz (iI a b) p up)]) (by rw[<-q1,<-q2];rfl)) ah 
   .have rH:b.iu<=a.iu:= ae 
    have law:=XI (p:=p) ha hb a0 b0 up;have siz:=JI ha hb a0 b0 rH ic;have prt:=Ov ha hb a0 b0 rH ic;obtain⟨l1,l2,_,_,_,_,_,_,_⟩:=siz;have z1:(gU (lP a b p)).length<=256:=ng ae;have rX:=prt.2.2;have y1:-45000<=jl a b p:= ae ;have y2:jl a b p<=45000:= ae ;by_cases hz:lP a b p=0
    .by_cases hl:mX a b p=true
     .have h0:lP a b p≠0:=by intro q;have:=rX hl;rw[q,qR]at this;omega
      exact absurd hz h0
     .replace hz:lP a b p=0/\mX a b p=false:=⟨hz,by simpa using hl⟩
      have yp:iI a b=jx:=by exact law.1 hz
      exact tr true Tryz.call144 Tryz.func144 (chain [.o 16 (.e (vI _ _):PV.le (.e (.sl true 2 3 fun i_ j_=>(jo a++jo b).getD (i_*3+j_) (.v (.bool false)))) (.e (np [a,b]))),.c (wm _ _ _ af af ae ae:gV 177 [(iP p),(np [a,b])] _),tB 19 (ag:((0:Int) != 0)=false),tB 26 (nj (pM a0):(((gU a.m).length:Int)==0)=false),tB 37 (nj (pM b0):(((gU b.m).length:Int)==0)=false),.c (oC _ af:gV 130 [(gY a)] _),.c (oC _ af:gV 130 [(gY b)] _),tB 48 (aT ht),.c (Jn a b p af af af af af ae ae),tB 61 (rM (qN.2 hz.1):(((gU (lP a b p)).length:Int)==0)=true),tB 64 (hz.2:(mX a b p)=false),.o 67 (.e vu:PV.le (.e (.agg [(bP false),(.v (.slice none 0 0)),(iP 0)])) (.e (gY jx)))]<|rQ (.iw [(gY jx),(iP 0)]) (.iw [gY (jh (iI a b) p up),iP (jz (iI a b) p up)]) (by rw[yp,(AB p up).1,(AB p up).2])) ah 
    .have h0:lP a b p≠0\/lP a b p=0/\jl a b p=0/\mX a b p=false:=.inl hz
     obtain⟨q1,q2⟩:=law.2 (fun q=>hz q.1);exact tr true Tryz.call144 Tryz.func144 (chain [.o 16 (.e (vI _ _):PV.le (.e (.sl true 2 3 fun i_ j_=>(jo a++jo b).getD (i_*3+j_) (.v (.bool false)))) (.e (np [a,b]))),.c (wm _ _ _ af af ae ae:gV 177 [(iP p),(np [a,b])] _),tB 19 (ag:((0:Int) != 0)=false),tB 26 (nj (pM a0):(((gU a.m).length:Int)==0)=false),tB 37 (nj (pM b0):(((gU b.m).length:Int)==0)=false),.c (oC _ af:gV 130 [(gY a)] _),.c (oC _ af:gV 130 [(gY b)] _),tB 48 (aT ht),.c (Jn a b p af af af af af ae ae),tB 61 (nj (pM hz):(((gU (lP a b p)).length:Int)==0)=false),.c (FL (! (a.neg==(o9 a b p))) (lP a b p) (jl a b p) (mX a b p) up p ae af ae ae ae ae af)]<|rQ (.iw [(gY (jP (!(a.neg==(o9 a b p))) (lP a b p) (jl a b p) (mX a b p) p up)),(iP (jG (!(a.neg==(o9 a b p))) (lP a b p) (jl a b p) (mX a b p) p up))]) (.iw [gY (jh (iI a b) p up),iP (jz (iI a b) p up)]) (by rw[<-q1,<-q2];rfl)) ah 
theorem Wl(a b:Dy)(p:Nat)(up:Bool)(ha:a.ib)(hb:b.ib)(il:8<=p)(ic:p<=512):gV 145 [(gY a),(gY b),(iP p),(bP up)] (.iw [gY (jh (ml a b) p up),iP (jz (ml a b) p up)]):=by
 by_cases a0:a.m=0
 .have e1:ml a b=jx:=by unfold ml;rw[a0,ch];rfl
  exact tr true Tryz.call145 Tryz.func145 (chain [.o 16 (.e (vI _ _):PV.le (.e (.sl true 2 3 fun i_ j_=>(jo a++jo b).getD (i_*3+j_) (.v (.bool false)))) (.e (np [a,b]))),.c (wm _ _ _ af af ae ae:gV 177 [(iP p),(np [a,b])] _),tB 19 (ag:((0:Int) != 0)=false),tB 25 (rM (qN.2 a0):(((gU a.m).length:Int)==0)=true),.o 32 (.e vu:PV.le (.e (.agg [(bP false),(.v (.slice none 0 0)),(iP 0)])) (.e (gY jx)))]<|rQ (.iw [(gY jx),(iP 0)]) (.iw [gY (jh (ml a b) p up),iP (jz (ml a b) p up)]) (by rw[e1,(AB p up).1,(AB p up).2])) ah 
 .by_cases b0:b.m=0
  .have e1:ml a b=jx:=by unfold ml;rw[b0,cr];rfl
   exact tr true Tryz.call145 Tryz.func145 (chain [.o 16 (.e (vI _ _):PV.le (.e (.sl true 2 3 fun i_ j_=>(jo a++jo b).getD (i_*3+j_) (.v (.bool false)))) (.e (np [a,b]))),.c (wm _ _ _ af af ae ae:gV 177 [(iP p),(np [a,b])] _),tB 19 (ag:((0:Int) != 0)=false),tB 25 (nj (pM a0):(((gU a.m).length:Int)==0)=false),tB 30 (rM (qN.2 b0):(((gU b.m).length:Int)==0)=true),.o 32 (.e vu:PV.le (.e (.agg [(bP false),(.v (.slice none 0 0)),(iP 0)])) (.e (gY jx)))]<|rQ (.iw [(gY jx),(iP 0)]) (.iw [gY (jh (ml a b) p up),iP (jz (ml a b) p up)]) (by rw[e1,(AB p up).1,(AB p up).2])) ah 
  .have va:=ha.gU
   have vb:=hb.gU;have xa:=ha.exp;have xb:=hb.exp;have ra:=ha.range.resolve_left a0;have rb:=hb.range.resolve_left b0;have bm:=ZZ a.m b.m;have z1:(gU (a.m*b.m)).length<=256:=ng ae;have m0:a.m*b.m≠0:=dr a0 b0;have h0:a.m*b.m≠0\/a.m*b.m=0/\a.e+b.e=0/\false=false:=.inl m0;have hm:false=true->p<ia (a.m*b.m):=fun h=>by cases h
   obtain⟨q1,q2⟩:=WK (a.neg != b.neg) up (a.m*b.m) (a.e+b.e) p m0;change jh (ml a b) p up=_ at q1;change jz (ml a b) p up=_ at q2;exact tr true Tryz.call145 Tryz.func145 (chain [.o 16 (.e (vI _ _):PV.le (.e (.sl true 2 3 fun i_ j_=>(jo a++jo b).getD (i_*3+j_) (.v (.bool false)))) (.e (np [a,b]))),.c (wm _ _ _ af af ae ae:gV 177 [(iP p),(np [a,b])] _),tB 19 (ag:((0:Int) != 0)=false),tB 25 (nj (pM a0):(((gU a.m).length:Int)==0)=false),tB 30 (nj (pM b0):(((gU b.m).length:Int)==0)=false),.c (yJ _ _ ae ae ae:gV 181 [(gX (gU a.m)),(gX (gU b.m))] _),iq (a.e+b.e) ae,.c (FL (! (a.neg==b.neg)) (a.m*b.m) (a.e+b.e) false up p ae af ae ae ae ae af)]<|rQ (.iw [(gY (jP (!(a.neg==b.neg)) (a.m*b.m) (a.e+b.e) false p up)),(iP (jG (!(a.neg==b.neg)) (a.m*b.m) (a.e+b.e) false p up))]) (.iw [gY (jh (ml a b) p up),iP (jz (ml a b) p up)]) (by rw[q1,q2];rfl)) ah 
theorem aiO(a b:Dy)(p:Nat)(ha:a.ib)(hb:b.ib)(il:8<=p)(ic:p<=512):gV 88 [(gY a),(gY b),(iP p)] (.iw [gY (jh (iI a b) p false),iP (jz (iI a b) p false)]):=by
 exact tr true Tryz.call88 Tryz.func88 (chain [.c (Wf _ _ _ _ af af ae ae:gV 144 [(gY a),(gY b),(iP p),(bP false)] _)]<|.nil) ah 
theorem We(a b:Dy)(p:Nat)(ha:a.ib)(hb:b.ib)(il:8<=p)(ic:p<=512):gV 89 [(gY a),(gY b),(iP p)] (.iw [gY (jh (iI a b) p true),iP (jz (iI a b) p true)]):=by
 exact tr true Tryz.call89 Tryz.func89 (chain [.c (Wf _ _ _ _ af af ae ae:gV 144 [(gY a),(gY b),(iP p),(bP true)] _)]<|.nil) ah 
theorem Jk(a b:Dy)(p:Nat)(ha:a.ib)(hb:b.ib)(il:8<=p)(ic:p<=512):gV 92 [(gY a),(gY b),(iP p)] (.iw [gY (jh (ml a b) p false),iP (jz (ml a b) p false)]):=by
 exact tr true Tryz.call92 Tryz.func92 (chain [.c (Wl _ _ _ _ af af ae ae:gV 145 [(gY a),(gY b),(iP p),(bP false)] _)]<|.nil) ah 
theorem Jl(a b:Dy)(p:Nat)(ha:a.ib)(hb:b.ib)(il:8<=p)(ic:p<=512):gV 93 [(gY a),(gY b),(iP p)] (.iw [gY (jh (ml a b) p true),iP (jz (ml a b) p true)]):=by
 exact tr true Tryz.call93 Tryz.func93 (chain [.c (Wl _ _ _ _ af af ae ae:gV 145 [(gY a),(gY b),(iP p),(bP true)] _)]<|.nil) ah 
end Go.Proofs.YtdgnpeddgdclhaaGreatDoor
namespace Go.Proofs.YtdgnpeddgdclhaaGreatDoor.Fp
theorem afT{U V P q:Nat}(hP:0<P)(hV:9223372036854775808<=V/P)(hUV:U<4294967296*V)(h1:q<=4294967295)(h2:q<=U/P/(V/P))(h3:q=4294967295\/U/P/(V/P)<=q):
 U/V<=q/\q<=U/V+1:=by
 have LD:0<V/P:= ae ;have vP:0<V:=by
  apply bE;intro h;have:V=0:= ae ;rw[this,fL]at LD;omega
 have hVm:=bU V P;have hVr:=bg V hP;have hUm:=bU U P;have hUr:=bg U hP;constructor
 .
  rcases h3 with h3|h3
  .have:U/V<4294967296:=by rw[bR vP];exact hUV
   omega
  .refine aX ?_ h3
   rw[cL LD,cL hP,bc];have h4:V/P*P<=V:=cN V P;exact aX (ca _ h4) (cN U V)
 .
  have h4:q*(V/P)<=U/P:=(cL LD).1 h2;have h5:q*V<=q*(V/P)*P+q*P:=by
   have:V<=V/P*P+P:=by rw[a7];omega
   have:=ca q this;rw[bn,<-bc]at this;exact this
  have h6:q*(V/P)*P<=U:=aX (bC P h4) (cN U P);have h7:(q+1)*P<=V/P*P:=bC P ae;have h8:V/P*P<=V:=cN V P;have h9:q*V<U+V:=by
   rw[bK,bJ]at h7;omega
  apply bE;intro h;have vN:(U/V+2)*V<=q*V:=bC V ae;have wQ:=bU U V;have h12:=bg U vP;rw[bK,a7 (U/V)]at vN;omega
theorem abo{x v w third q rest:Nat}(hx:q*v+rest=x)(hq:q<=4294967295)(hw:w<4294967296)(hv:0<v)
 (h:4294967296<=rest\/q*w<=rest*4294967296+third):q<=(x*4294967296+third)/(v*4294967296+w):=by
 rw[cL ae,bn,<-hx];have e:q*(v*4294967296)=q*v*4294967296:=by rw[bc]
 rw[e,bK];rcases h with h|h
 .have h1:q*w<=4294967295*4294967295:=cK hq ae 
  omega
 .omega
theorem QS{x v w third q rest:Nat}(hx:q*v+rest=x)(hv:0<v)(h:rest*4294967296+third<q*w):
 (x*4294967296+third)/(v*4294967296+w)<=q-1/\0<q/\(q-1)*v+(rest+v)=x:=by
 have hq:0<q:=by
  apply bE;intro h';have:q=0:= ae ;subst this;rw[ch]at h;omega
 obtain⟨r,rfl⟩:∃ r,q=r+1:=⟨q-1,ae⟩
 refine⟨?_,hq,?_⟩
 .have e1:(r+1)*(v*4294967296+w)=(r+1)*v*4294967296+(r+1)*w:=by rw[bn,<-bc]
  have e2:((r+1)*v+rest)*4294967296=(r+1)*v*4294967296+rest*4294967296:=bK _ _ _;have:(x*4294967296+third)/(v*4294967296+w)<r+1:=by
   have hd:0<v*4294967296+w:= ae ;have e4:x*4294967296=(r+1)*v*4294967296+rest*4294967296:=hx▸e2;refine(bR hd).2 ?_;rw[e1,e4];clear e1 e2 e4 hd hx hq;generalize (r+1)*v=a at *
   generalize (r+1)*w=z at *
   exact Nat.add_lt_add_left h _|>fun h=>by rw[<-cE]at h;exact h
  omega
 .have e3:(r+1)*v=r*v+v:=gy r v
  rw[dE];rw[e3]at hx;clear e3 h hq;generalize r*v=a at *
  omega
theorem abq{x v w third:Nat}(hv:0<v)(ht:third<4294967296):(x*4294967296+third)/(v*4294967296+w)<=x/v:=by
 have h1:(x*4294967296+third)/(v*4294967296+w)<=(x*4294967296+third)/(v*4294967296):=gz ae ae;refine aX h1 ?_;rw[a7 v,<-cz];have:(x*4294967296+third)/4294967296=x:= ae ;rw[this];exact aU _
structure wJ(O0:List Nat)(j q:Nat)(V:List Nat)(k:Nat)(O:List Nat)(c b:Nat):Prop where
 len:O.length=O0.length
 ok:iC O
 vl:val O+q*(4294967296^j*val (V.take k))=val O0+4294967296^(j+k)*(c+b)
 qb:∀ i,j+k<=i->O.getD i 0=O0.getD i 0
 Qf:c<4294967296
 PQ:b<=1
theorem wJ.start{O0:List Nat}(h:iC O0)(j q:Nat)(V:List Nat):wJ O0 j q V 0 O0 0 0:=
 ⟨rfl,h,by simp[val],fun _ _=>rfl,ag,ag⟩
theorem alc{q y c b u:Nat}(hq:q<=4294967295)(hy:y<4294967296)(hc:c<4294967296)(hb:b<=1)(hu:u<4294967296):
 q*y+c<18446744073709551616/\(q*y+c)/4294967296<4294967296 /\
 ((u+18446744073709551616-(q*y+c)%4294967296-b)%18446744073709551616)/9223372036854775808<=1 /\
 ((u+18446744073709551616-(q*y+c)%4294967296-b)%18446744073709551616)%4294967296+(q*y+c)%4294967296+b =
  u+4294967296*(((u+18446744073709551616-(q*y+c)%4294967296-b)%18446744073709551616)/9223372036854775808):=by
 have h1:q*y<=4294967295*4294967295:=cK hq ae;generalize q*y=z at *
 omega
theorem wJ.step{O0 V O:List Nat}{j q k c b:Nat}(h:wJ O0 j q V k O c b){u' b':Nat}(hk:k<V.length)(hj:j+V.length<O0.length)(hu:u'<4294967296)(hc:(q*V.getD k 0+c)/4294967296<4294967296)(hb:b'<=1)
 (hd:u'+(q*V.getD k 0+c)%4294967296+b=O.getD (j+k) 0+4294967296*b'):
 wJ O0 j q V (k+1) (O.set (j+k) u') ((q*V.getD k 0+c)/4294967296) b':=by
 have pP:j+k<O.length:=by rw[h.len];omega
 refine⟨by rw[cv];exact h.len,h.ok.set _ hu,?_,fun i hi=>?_,hc,hb⟩
 .have e:=dq (q*V.getD k 0+c) 4294967296
  have h1:=xz (x:=u') pP;have h2:=h.vl;have h3:u'+(q*V.getD k 0+c)+b=O.getD (j+k) 0+4294967296*((q*V.getD k 0+c)/4294967296+b'):= ae ;have h4:=congrArg (4294967296^(j+k) * ·) h3;simp only[bn]at h4;rw[uy,bn (4294967296^j),bn q,<-bc (4294967296^j),<-aV,show q*(4294967296^(j+k)*V.getD k 0)=4294967296^(j+k)*(q*V.getD k 0)from cD _ _ _,
   show j+(k+1)=j+k+1 from rfl,aZ,bc,bn 4294967296,bn (4294967296^(j+k))]
  rw[bn]at h2;omega
 .rw [uN ae];exact h.qb i ae 
theorem wJ.MR{O0 V O:List Nat}{j q c b:Nat}(h:wJ O0 j q V V.length O c b)(hj:j+V.length<O0.length){t:Nat}
 (ht:t=(O.getD (j+V.length) 0+18446744073709551616-c-b)%18446744073709551616):
 (O.set (j+V.length) (t%4294967296)).length=O0.length/\iC (O.set (j+V.length) (t%4294967296))/\t/9223372036854775808<=1 /\
 val (O.set (j+V.length) (t%4294967296))+q*(4294967296^j*val V)=val O0+4294967296^(j+V.length+1)*(t/9223372036854775808) /\
 ∀ i,j+V.length<i->(O.set (j+V.length) (t%4294967296)).getD i 0=O0.getD i 0:=by
 have pP:j+V.length<O.length:=by rw[h.len];omega
 have hc:=h.Qf;have hb:=h.PQ;have hu:=h.ok.getD (j+V.length);have hd:t%4294967296+c+b=O.getD (j+V.length) 0+4294967296*(t/9223372036854775808):= ae ;refine⟨by rw[cv];exact h.len,h.ok.set _ (bg _ ag),ae,?_,fun i hi=>by rw[uN ae];exact h.qb i ae⟩;have h1:=xz (x:=t%4294967296) pP;have h2:=h.vl;rw[fg]at h2;have h4:=congrArg (4294967296^(j+V.length) * ·) hd;simp only[bn]at h4;rw[aZ,bc];rw[bn]at h2;omega
structure wH(O0:List Nat)(j:Nat)(V:List Nat)(k:Nat)(O:List Nat)(c:Nat):Prop where
 len:O.length=O0.length
 ok:iC O
 vl:val O+4294967296^(j+k)*c=val O0+4294967296^j*val (V.take k)
 qb:∀ i,j+k<=i->O.getD i 0=O0.getD i 0
 Kx:c<=1
theorem wH.start{O0:List Nat}(h:iC O0)(j:Nat)(V:List Nat):wH O0 j V 0 O0 0:=
 ⟨rfl,h,by simp[val],fun _ _=>rfl,ag⟩
theorem wH.step{O0 V O:List Nat}{j k c:Nat}(h:wH O0 j V k O c)(hV:iC V)(hk:k<V.length)(hj:j+V.length<O0.length):
 wH O0 j V (k+1) (O.set (j+k) ((O.getD (j+k) 0+V.getD k 0+c)%4294967296)) ((O.getD (j+k) 0+V.getD k 0+c)/4294967296):=by
 have pP:j+k<O.length:=by rw[h.len];omega
 have hu:=h.ok.getD (j+k);have hy:=hV.getD k;have hc:=h.Kx;refine⟨by rw[cv];exact h.len,h.ok.set _ (bg _ ag),?_,fun i hi=>by rw[uN ae];exact h.qb i ae,ae⟩;have h1:=xz (x:=(O.getD (j+k) 0+V.getD k 0+c)%4294967296) pP;have h2:=h.vl;have h4:=congrArg (4294967296^(j+k) * ·) (dq (O.getD (j+k) 0+V.getD k 0+c) 4294967296);simp only[bn]at h4;rw[uy,bn (4294967296^j),<-bc (4294967296^j),<-aV,show j+(k+1)=j+k+1 from rfl,aZ,bc];omega
theorem wH.MR{O0 V O:List Nat}{j c:Nat}(h:wH O0 j V V.length O c)(hj:j+V.length<O0.length):
 (O.set (j+V.length) ((O.getD (j+V.length) 0+c)%4294967296)).length=O0.length/\iC (O.set (j+V.length) ((O.getD (j+V.length) 0+c)%4294967296)) /\
 (∃ κ,κ<=1/\val (O.set (j+V.length) ((O.getD (j+V.length) 0+c)%4294967296))+4294967296^(j+V.length+1)*κ=val O0+4294967296^j*val V) /\
 ∀ i,j+V.length<i->(O.set (j+V.length) ((O.getD (j+V.length) 0+c)%4294967296)).getD i 0=O0.getD i 0:=by
 have pP:j+V.length<O.length:=by rw[h.len];omega
 have hu:=h.ok.getD (j+V.length);have hc:=h.Kx;refine⟨by rw[cv];exact h.len,h.ok.set _ (bg _ ag),⟨(O.getD (j+V.length) 0+c)/4294967296,ae,?_⟩,fun i hi=>by rw[uN ae];exact h.qb i ae⟩;have h1:=xz (x:=(O.getD (j+V.length) 0+c)%4294967296) pP;have h2:=h.vl;rw[fg]at h2;have h4:=congrArg (4294967296^(j+V.length) * ·) (dq (O.getD (j+V.length) 0+c) 4294967296);simp only[bn]at h4;rw[aZ,bc];omega
theorem JU{O:List Nat}(h:iC O){k:Nat}(hz:∀ i,k<=i->O.getD i 0=0):val O<4294967296^k:=by
 by_cases hk:O.length<=k
 .exact bD (lY h) (bh ag hk)
 .rw [DI O k ae]
  have:val (O.drop k)=0:=by
   rw[F7];intro x hx;obtain⟨i,hi⟩:=df.1 hx;rw[ek]at hi;have:=hz (k+i) ae;rw[aW,hi]at this;exact this
  rw[this,cr,bt];have h1:=lY (h.take k);rw[bZ,cR ae]at h1;exact h1
theorem alm{O:List Nat}(h:iC O){k:Nat}(hv:val O<4294967296^k){i:Nat}(hi:k<=i):O.getD i 0=0:=by
 have h1:val (O.drop k)=0:=by rw[F6 h,bT hv]
 rw[F7]at h1;rw[aW];cases hg:O[i]? with
 |none=>rfl
 |some x=>exact h1 x (df.2 ⟨i-k,by rw[ek,show k+(i-k)=i by omega];exact hg⟩)
theorem QT{u u' V P x:Nat}(hP:0<P)(hV:0<V)(h:u'+x*(P*V)=u)(hx:u/P/V<=x):x=u/P/V/\u'<V*P:=by
 have h1:x*V<=u/P:=by
  rw[cL hP,bc,a7 V P];omega
 have h2:x<=u/P/V:=(cL hV).2 h1;have h3:x=u/P/V:= ae ;refine⟨h3,?_⟩;have e1:=bU u P;have e2:=bg u hP;have e3:=bU (u/P) V;have e4:=bg (u/P) hV;rw[<-h3]at e3;have e5:P*(u/P)=x*(P*V)+P*(u/P%V):=by
  rw[<-e3,bn,e3,a7 V x,cD]
 have e6:P*(u/P%V)+P<=V*P:=by
  rw[a7 V P,<-Nat.mul_succ];exact ca P e4
 omega
theorem abp{u u' u'' V P R x κ:Nat}(hP:0<P)(hV:0<V)(h:u'+x*(P*V)=u+R)(h':u'<R)(hx:x<=u/P/V+1)
 (hk:κ<=1) (h2:u''+R*κ=u'+P*V) (h3:u''<R):0<x/\x-1=u/P/V/\u''+(x-1)*(P*V)=u/\u''<V*P:=by
 have mj:u/P<x*V:=by
  rw[bR hP,bc,a7 V P];omega
 have we:u/P/V<x:=by rw[bR hV];exact mj
 have qW:x=u/P/V+1:=Nat.le_antisymm hx we;obtain⟨y,hy⟩:∃ y,y=u/P/V:=⟨_,rfl⟩
 rw[<-hy]at qW;subst qW;rw[dE];have e0:(y+1)*(P*V)=y*(P*V)+P*V:=gy _ _;have e1:y*(P*V)<=u:=by
  have:y*V<=u/P:=by rw[hy];exact cN _ _
  have:=(cL hP).1 this;rw[bc,a7 V P]at this;exact this
 have hκ:κ=1:=by
  apply bE;intro q;obtain rfl:κ=0:= ae ;omega
 subst hκ;have e2:u''+y*(P*V)=u:= ae ;exact⟨ae,hy,e2,(QT hP hV e2 ae).2⟩
def sw(q rest third v w x:Nat):Prop:=rest+x*v<4294967296/\(rest+x*v)*4294967296+third<(q-x)*w
theorem QQ{X q rest third v w:Nat}(hx:q*v+rest=X)(hq:q<=4294967295)(hv:2147483648<=v)(hw:w<4294967296):
 ∃ N,N<=2/\N<=q/\(∀ x,x<N->sw q rest third v w x)/\¬sw q rest third v w N/\q-N<=(X*4294967296+third)/(v*4294967296+w)/\(N=0\/(X*4294967296+third)/(v*4294967296+w)<=q-N):=by
 have stop:∀ {q' r':Nat},q'*v+r'=X->q'<=4294967295->¬(r'<4294967296/\r'*4294967296+third<q'*w)->q'<=(X*4294967296+third)/(v*4294967296+w):=fun {q' r'} h1 h2 h3=>
  abo h1 h2 hw ae (by
   by_cases hr:4294967296<=r'
   .exact .inl hr
   .refine .inr (fi fun hn=>h3 ⟨gE hr,hn⟩))
 by_cases h0:sw q rest third v w 0
 .have g0:=h0
  unfold sw at g0;rw[ch,bt,dh]at g0;obtain⟨k1,k2,k3⟩:=QS hx ae g0.2;by_cases h1:sw q rest third v w 1
  .have g1:=h1
   unfold sw at g1;rw[bJ]at g1;obtain⟨l1,l2,l3⟩:=QS k3 ae g1.2;have h2:¬sw q rest third v w 2:=fun h=>by unfold sw at h;omega
   refine⟨2,aU _,ae,fun x hx=>?_,h2,?_,.inr l1⟩
   .obtain rfl|rfl:x=0\/x=1:= ae 
    .exact h0
    .exact h1
   .refine stop (r':=rest+v+v) l3 ae fun h=> ae 
  .refine ⟨1,ag,k2,fun x hx=>?_,h1,?_,.inr k1⟩
   .obtain rfl:x=0:= ae 
    exact h0
   .unfold sw at h1
    rw[bJ]at h1;exact stop k3 ae h1
 .refine ⟨0,ag,bL _,fun x hx=>absurd hx (bj x),h0,?_,.inl rfl⟩
  unfold sw at h0;rw[ch,bt,dh]at h0;exact stop hx hq h0
theorem aby{a b s q r:Nat}(hb:0<b)(h:r+b*2^s*q=a*2^s)(hr:r<b*2^s):q=a/b/\r=a%b*2^s:=by
 have hp:0<2^s:=aY ag;have h1:r%2^s=0:=by
  have:=congrArg (· % 2^s) h;simp only[eF]at this;rw[bc,cD,dN]at this;exact this
 obtain⟨t,ht⟩:∃ t,r=t*2^s:=⟨r/2^s,by rw[Nat.div_mul_cancel (Nat.dvd_of_mod_eq_zero h1)]⟩
 subst ht;have h2:(t+b*q)*2^s=a*2^s:=by rw[bK,<-h,fz]
 have h3:=am8 hp h2;have h4:t<b:=am9 hr;constructor
 .rw [<-h3,eB _ _ hb,bT h4,bX]
 .rw [<-h3,dN,bu h4]
theorem XV{O:List Nat}(h:iC O){j n:Nat}(hn:2<=n)(hz:∀ i,j+n<i->O.getD i 0=0):
 val O/4294967296^j/4294967296^(n-2)=(O.getD (j+n) 0*4294967296+O.getD (j+n-1) 0)*4294967296+O.getD (j+n-2) 0:=by
 rw[cz,<-aV,<-F6 h];have e:∀ (l:List Nat),iC l->(∀ i,2<i->l.getD i 0=0)->val l=(l.getD 2 0*4294967296+l.getD 1 0)*4294967296+l.getD 0 0:=by
  intro l hl hz;rcases l with _|⟨a,_|⟨b,_|⟨c,l⟩⟩⟩
  .rfl
  .simp [val]
  .simp [val];omega
  .have:val l=0:=by
    rw[F7];intro x hx;obtain⟨i,hi⟩:=df.1 hx;have:=hz (i+3) ae;rw[aW]at this;simp only[am0,hi]at this;exact this
   simp[val,this];omega
 have g:∀ i,(O.drop (j+(n-2))).getD i 0=O.getD (j+(n-2)+i) 0:=fun i=>by
  rw[aW,ek,aW]
 rw[e _ (h.drop _) (fun i hi=>by rw[g];exact hz _ ae),g,g,g];rw[show j+(n-2)+2=j+n by omega,show j+(n-2)+1=j+n-1 by omega,show j+(n-2)+0=j+n-2 by omega]
theorem alj{V:List Nat}(h:iC V){n:Nat}(hn:2<=n)(hl:V.length=n):val V/4294967296^(n-2)=V.getD (n-1) 0*4294967296+V.getD (n-2) 0:=by
 have:=XV (O:=V) h (j:=0) (n:=n) hn (fun i hi=>by rw[aW,bS ae];rfl);rw[bN,dC,bX]at this;rw[this,show V.getD n 0=0 by rw[aW,bS ae];rfl];omega
end Go.Proofs.YtdgnpeddgdclhaaGreatDoor.Fp
namespace Go.Proofs.YtdgnpeddgdclhaaGreatDoor
open Go.RowKit Fp
def Rx(w:World)(b:Nat)(L:List Nat)(R:List Value):Prop:=w.heap[b]? = some (.cells (nX L++R).toArray 79 (0,0))
section
variable {w w':World} {b:Nat} {L:List Nat} {R:List Value}
theorem Rx.lt(h:Rx w b L R):b<w.heap.size:=(cP.1 h).1
theorem Rx.cell(h:Rx w b L R){i:Nat}(hi:i<L.length):w.cell? ⟨b,i,none⟩=some (.int .u32 (L.getD i 0:Int)):=by
 unfold Rx at h;simp only[World.cell?,h];simp[nX,hi,fB]
theorem Rx.frozen(h:Rx w b L R)(i:Nat):w.frozen? ⟨b,i,none⟩=false:=by
 unfold Rx at h;simp[World.frozen?,h]
theorem Rx.set(h:Rx w b L R){i:Nat}(hi:i<L.length)(x:Nat):Rx (w.setCell ⟨b,i,none⟩ (.int .u32 (x:Int))) b (L.set i x) R:=by
 unfold Rx at h ⊢;simp only[World.setCell,eG,h];simp[nX,List.map_set,List.set_append,hi]
theorem Rx.qb(h:Rx w b L R)(hb:w'.heap[b]? = w.heap[b]?):Rx w' b L R:=by unfold Rx at h ⊢;rw[hb];exact h
end
structure sr(b:Nat)(w w':World):Prop where
 below:Below b w w'
 size:w'.heap.size=w.heap.size
 pL:∀ x,x≠b->w'.heap[x]? = w.heap[x]?
theorem sr.refl(b:Nat)(w:World):sr b w w:=⟨Below.refl _ _,rfl,fun _ _=>rfl⟩
theorem sr.FV{b:Nat}{w w':World}(h:sr b w w')(i:Nat)(v:Value):sr b w (w'.setCell ⟨b,i,none⟩ v):=
 ⟨h.below.setCell (p:=⟨b,i,none⟩) (aU _) v,by
  have:(w'.setCell ⟨b,i,none⟩ v).heap.size=w'.heap.size:=by simp[World.setCell]
  rw[this,h.size],fun x hx=>by
  rw[<-h.pL x hx];simp only[World.setCell,eG];rw[aQ (fun e=>hx e.symm)]⟩
def OR(b:Nat)(A:Option Addr):Prop:=∀ b' o s,A=some ⟨b',o,s⟩->b'≠b
theorem Sl.pL{w w':World}{A:Option Addr}{c b:Nat}{L:List Nat}(h:Sl w A c L)(ha:OR b A)(ho:sr b w w'):Sl w' A c L:=
 ⟨h.cap,h.pV,h.ok,h.wk,fun i x hx=>by
  obtain⟨b',o,e,h1,h2⟩:=h.cell i x hx;refine⟨b',o,e,by rw[ho.size];exact h1,?_⟩;rw[<-h2];exact(World.cell?_of_block (w:=w) (w':=w') (ho.pL b' (ha _ _ _ e)))⟩
theorem Yp{u m b:Nat}(hm:m<4294967296)(hb:b<=4294967296):
 IntKind.u64.wrap (IntKind.u64.wrap ((u:Int)-(m:Int))-(b:Int))=(((u+18446744073709551616-m-b)%18446744073709551616:Nat):Int):=by
 rw[IntKind.wrap_u64,IntKind.wrap_u64];omega
theorem alb(b j cu c q:Nat)(O V:List Nat)(R:List Value)(A:Option Addr)(w:World)(hu:Rx w b O R)(hv:Sl w A c V)(hA:OR b A)(kV:iC O)(hj:j+V.length<O.length)(hq:q<=4294967295)(hl:O.length<=1000000):
 Calls Tryz.prog 341 #[.slice (some ⟨b,j,none⟩) (V.length+1) cu,.slice A V.length c,.int .u64 q] w fun e w'=>∃ (O':List Nat) (δ:Nat),e = .returned (.bool (decide (δ=1)))/\Rx w' b O' R/\O'.length=O.length/\iC O'/\δ<=1 /\
  val O'+q*(4294967296^j*val V)=val O+4294967296^(j+V.length+1)*δ/\(∀ i,j+V.length<i->O'.getD i 0=O.getD i 0)/\sr b w w':=by
 obtain⟨n,hn⟩:∃ n,n=V.length:=⟨_,rfl⟩
 rw[<-hn]at hj ⊢;have HN:=Lib.hid hn;have HJ:=Lib.hid hj;clear hn;have kg:n<=1000000:= ae ;have Ih:j<=1000000:= ae ;clear hj;have HT0:=Lib.hid (wJ.start kV j q V);clear kV;have HO:=Lib.hid (sr.refl b w);have HU:=Lib.hid hu;clear hu;go_enter Tryz.func341,Tryz.ntmps341;go_wp2;go_loopw [7,8,9,10,11,12,16] (fun cy bo _ _ _ _ i wr=>∃ (k c' b':Nat) (O':List Nat),k<=n/\i = .int .i64 k/\cy = .int .u64 c'/\bo = .int .u64 b'/\wJ O j q V k O' c' b'/\Rx wr b O' R/\sr b w wr) (fun _ _ _ _ _ _ i _=>n-(intOf i).toNat)
 case atStart=>
  exact⟨0,0,0,O,bL _,rfl,rfl,rfl,HT0.out,HU.out,HO.out⟩
 case round=>
  obtain⟨k,c',b',O',hk,rfl,rfl,rfl,ht,hR,ho⟩:=hrel;clear HT0 HO HU;have HTk:=Lib.hid ht;have iZ:=ht.PQ;have Eo:=ht.Qf;have HOl:=Lib.hid ht.len;clear ht;have Mo:=hv.pL hA ho;by_cases iD:k<n
  .have yi:k<V.length:=by rw[<-HN.out];exact iD
   obtain⟨ab,ao,e1,_,c1⟩:=Mo.ln yi;have pq:V.getD k 0<4294967296:=hv.ok.getD k;have TA:V[k]=V.getD k 0:=by simp[aW,yi]
   rw[TA]at c1;have pP:j+k<O'.length:=by rw[HOl.out];have:=HJ.out;omega
   have c2:=hR.cell pP;have c3:=hR.frozen (j+k);have EK:O'.getD (j+k) 0<4294967296:=HTk.out.ok.getD _;obtain⟨sF,ky,CS,Te⟩:=alc hq pq Eo iZ EK;have HST:=Lib.hid (HTk.out.step (b':=((O'.getD (j+k) 0+18446744073709551616-(q*V.getD k 0+c')%4294967296-b')%18446744073709551616)/9223372036854775808) yi (by rw[<-HN.out];exact HJ.out) (bg _ ag) ky CS Te);have HRS:=Lib.hid (fun x:Nat=>hR.set pP x);have HOS:=Lib.hid (fun(v:Value)=>ho.FV (j+k) v);clear hR ho HTk pP TA yi Te HOl Mo;subst e1;have Im:q*V.getD k 0<=4294967295*4294967295:=cK hq ae;have yx:IntKind.u64.wrap ((q:Int)*(V.getD k 0:Int))=((q*V.getD k 0:Nat):Int):=by rw[<-dH];exact px _ ae 
   generalize V.getD k 0=y at *
   generalize q*y=z at *
   have IC:IntKind.u64.wrap ((z:Int)+(c':Int))=((z+c':Nat):Int):=by rw[<-er];exact px _ ae 
   generalize O'.getD (j+k) 0=u at *
   generalize z+c'=s at *
   have tK:bits .and .u64 (s:Int) 4294967295=((s%4294967296:Nat):Int):=by rw[vC s ae];omega
   have amw:s%4294967296<4294967296:=bg _ ag;have hd:(s:Int)/4294967296=((s/4294967296:Nat):Int):= ae ;generalize s%4294967296=m at *
   generalize s/4294967296=s2 at *
   have EH:=Yp (u:=u) (m:=m) (b:=b') ae ae;generalize (u+18446744073709551616-m-b')%18446744073709551616=t at *
   have wZ:(j:Int)+(k:Int)=((j+k:Nat):Int):= ae ;go_wp2;go_roundw
   case rel=>
    have e1:((t:Int)%4294967296)=((t%4294967296:Nat):Int):= ae ;exact⟨k+1,s2,t/9223372036854775808,O'.set (j+k) (t%4294967296),ae,by go_num,by go_num,by go_num,HST.out,by rw[e1];exact HRS.out _,HOS.out _⟩
   case measure=>simp[intOf];omega
  .obtain rfl:k=n:= ae 
   have L7:j+k<O.length:=HJ.out;have HTk':=Lib.hid (show wJ O j q V V.length O' c' b' by rw[<-HN.out];exact HTk.out);have HL:=HTk'.out.MR (t:=(O'.getD (j+k) 0+18446744073709551616-c'-b')%18446744073709551616) (by rw[<-HN.out];exact L7) (by rw[<-HN.out]);rw[<-HN.out]at HL;have HT:=Lib.hid HL;clear HL;have pP:j+k<O'.length:=by rw[HOl.out];exact L7
   have c2:=hR.cell pP;have c3:=hR.frozen (j+k);have EK:O'.getD (j+k) 0<4294967296:=HTk.out.ok.getD _;have HRS:=Lib.hid (fun x:Nat=>hR.set pP x);have HOS:=Lib.hid (fun(v:Value)=>ho.FV (j+k) v);clear hR ho HTk HTk' pP L7 HOl Mo;generalize O'.getD (j+k) 0=u at *
   have EH:=Yp (u:=u) (m:=c') (b:=b') Eo ae;have htl:(u+18446744073709551616-c'-b')%18446744073709551616<18446744073709551616:=bg _ ag;generalize (u+18446744073709551616-c'-b')%18446744073709551616=t at *
   have wZ:(j:Int)+(k:Int)=((j+k:Nat):Int):= ae ;go_wp2;go_ret;have e1:((t:Int)%4294967296)=((t%4294967296:Nat):Int):= ae ;obtain⟨t1,t2,t3,t4,t5⟩:=HT.out;exact⟨O'.set (j+k) (t%4294967296),t/9223372036854775808,Jt (a:=(((t:Int)/9223372036854775808)==1)) (by rw[cQ,gp,gn];omega),by rw[e1];exact HRS.out _,t1,t2,t3,t4,t5,HOS.out _⟩
open Go.RowKit Fp
theorem U7(A:Option Addr)(c:Nat)(L:List Nat)(n:Nat)(w:World)(hs:Sl w A c L)(hlen:L.length<=100000000)(hn:n<=65536):
 Calls Tryz.prog 204 #[.slice A L.length c,.int .i64 n] w (fun e w'=>∃ T v,e = .returned v/\val T=val L*2^n/\T.length=n/32+(ij L).length+1/\Ow w' w.heap.size v T/\iy w w'):=by
 have hT:=Lib.hid (ud A c L w hs);have ky:=hs.tk;have ns:=oG L;have hC:=ky.cap;have hL:=hs.pV;unfold lQ at ns;have hv:=Lib.hid (oo L);generalize ij L=M at *
 obtain⟨m,hm⟩:∃ m,m=M.length:=⟨_,rfl⟩
 rw[<-hm]at hT ns hC;have HM:=Lib.hid hm;clear hm;have oR:=MZ (n/32) (n/32+m+1) ae ae;rw[show((n/32:Nat):Int)=(n:Int)/32 by omega,show((n/32+m+1:Nat):Int)=(n:Int)/32+m+1 by omega]at oR;have El:=Lib.hid (Ow.xm w w.heap.size (n/32) (n/32+m+1) (aU _) ae ae);go_enter Tryz.func204,Tryz.ntmps204;go_wp2_with fail;refine hT.out.mono ?_;rintro e w' ⟨rfl,rfl⟩;go_wp2;go_loopw [5,6,23] (fun v cy i wr=>∃ (k q:Nat) (O:List Nat),k<=m/\i = .int .i64 k/\cy = .int .u64 q/\q<2^(n%32)/\O.length=n/32+k/\val O+4294967296^(n/32+k)*q=val (M.take k)*2^(n%32)*4294967296^(n/32)/\Ow wr w.heap.size v O/\iy w wr) (fun _ _ i _=>m-(intOf i).toNat)
 case atStart=>
  exact⟨0,0,List.replicate (n/32) 0,bL _,rfl,rfl,aY ag,aj,by simp[y4],El.out,iy.alloc _ _⟩
 case round=>
  obtain⟨k,q,O,hk,rfl,rfl,hq,hO,kW,k0,hb⟩:=hrel;have HV:=Lib.hid kW;have HO:=Lib.hid hO;have Ek:O.length<=200000000:= ae ;have tR:=Lib.hid hq;clear kW hO hq;obtain⟨OA,Oc,rfl,yl⟩:=k0.sl;by_cases iD:k<m
  .have oQ:k<M.length:=by have:=HM.out;omega
   obtain⟨ab,ao,rfl,_,c1⟩:=(ky.below hb).ln oQ;have my:M[k]<4294967296:=ky.ok.get oQ;have HX:=Lib.hid (Oj (c:=q) (s:=n%32) (n0:=n/32) oQ HO.out HV.out);generalize M[k]=x at *
   obtain⟨hw,yy,s9⟩:=Ol x q (n%32) my (bg _ ag) tR.out;generalize x*2^(n%32)+q=z at *
   have EN:=Lib.hid s9;clear s9;have lI:O.length+[z%4294967296].length<=10000000000:= av ;go_wp2_with (at_builtin;go_must (refine qQ ai _ _ ai w.heap.size _ O ai (k0.alloc _) _ _ _ [z%4294967296] ai ai (Sl.sJ _ _ (z%4294967296) ae ae) lI (pU hb.size _) ?_);intro v' w1 oq hg oO)
   go_roundw
   case rel=>
    exact⟨k+1,z/4294967296,O++[z%4294967296],ae,by go_num,by go_num,EN.out,by rw[cg,HO.out];rfl,HX.out,oq,(hb.trans (iy.alloc _ _)).own _ _ (k0.alloc _) hg⟩
   case measure=>simp[intOf];omega
  .obtain rfl:k=m:= ae 
   have lI:O.length+[q].length<=10000000000:= av ;have Iw:q<4294967296:=by
    have:=tR.out;have hp:2^(n%32)<=2^31:=bh ag ae;have e31:(2:Nat)^31=2147483648:= ag ;omega
   have Td:(q:Int)%4294967296=q:= ae ;go_wp2_with (at_builtin;go_must (refine qQ ai _ _ ai w.heap.size _ O ai (k0.alloc _) _ _ _ [q] ai ai (Sl.sJ _ _ q ae ae) lI (pU hb.size _) ?_);intro v' w1 oq hg oO)
   go_ret;refine⟨O++[q],v',rfl,?_,by rw[cg,HO.out,<-HM.out];rfl,oq,(hb.trans (iy.alloc _ _)).own _ _ (k0.alloc _) hg⟩;have h:=HV.out;rw[ck (by rw[HM.out];exact aU _)]at h;rw[uw,HO.out,qp,yZ,cr,bt,h,<-hv.out,nD,bc,<-aV];congr 2;omega
end Go.Proofs.YtdgnpeddgdclhaaGreatDoor
namespace Go.Proofs.YtdgnpeddgdclhaaGreatDoor.Fp
def iz(n k:Nat):Nat:=n/4294967296^k%4294967296
theorem pA(n k:Nat):iz n k<4294967296:=bg _ ag 
theorem AX(k:Nat):iz 0 k=0:=by unfold iz;rw[fL]
theorem pw(k:Nat):0<4294967296^k:=aY ag 
theorem pB{L:List Nat}(h:iC L)(k:Nat):L.getD k 0=iz (val L) k:=by
 unfold iz;rw[<-F6 h];by_cases hk:k<L.length
 .rw [eE hk,show val (L[k]::L.drop (k+1))=L[k]+4294967296*val (L.drop (k+1))from rfl,dN,bu (h.get hk)]
  simp[aW,hk]
 .rw [dO ae,aW,bS ae];rfl
theorem mod_succ(n k:Nat):n%4294967296^(k+1)=n%4294967296^k+4294967296^k*iz n k:=by
 rw[aZ,fK];rfl
theorem uH{n k:Nat}(h:n<4294967296^k){j:Nat}(hj:k<=j):iz n j=0:=by
 unfold iz;rw[bT (bD h (bh ag hj))]
def iJ(n m:Nat):List Nat:=(List.range m).map (iz n)
theorem mC(n m:Nat):(iJ n m).length=m:=by simp[iJ]
theorem rU(n m:Nat):iC (iJ n m):=fun x hx=>by
 obtain⟨k,_,rfl⟩:=cY.1 hx;exact pA n k
theorem sT{n m k:Nat}(h:k<m):(iJ n m).getD k 0=iz n k:=by
 simp[iJ,aW,h]
theorem GZ(m i:Nat):(iJ 0 m).getD i 0=0:=by
 by_cases h:i<m
 .rw [sT h,AX]
 .rw [aW,bS (by rw[mC];omega)];rfl
theorem abr(n m:Nat):iJ n (m+1)=iJ n m++[iz n m]:=by simp[iJ,List.range_succ]
theorem ux(n m:Nat):val (iJ n m)=n%4294967296^m:=by
 induction m with
 |zero=>simp[iJ,val];omega
 |succ m ih=>
  rw[abr,uw,ih,mC,mod_succ];rfl
theorem alM{L M:List Nat}(hL:iC L)(hM:iC M)(hl:L.length=M.length)(hv:val L=val M):L=M:=by
 apply gF hl;intro i h1 h2;have e1:=pB hL i;have e2:=pB hM i;rw[hv,<-e2]at e1;simpa[aW,h1,h2]using e1
theorem abt{L:List Nat}(h:iC L):iJ (val L) L.length=L:=
 alM (rU _ _) h (mC _ _) (by rw[ux,bu (lY h)])
theorem Co{L:List Nat}{n m:Nat}(h:iC L)(hl:L.length=m)(hv:val L=n):iJ n m=L:=by subst hl hv;exact abt h
theorem B4{n m:Nat}(h:n<4294967296^m):ij (iJ n m)=gU n:=by
 rw[qo (rU n m),ux,bu h]
theorem KL(n:Nat):iJ n (gU n).length=gU n:=Co (kB n) rfl (jC n)
def kF(a b k m:Nat):List Nat:=(List.range m).map fun j=>if j<k then iz a j else iz b j
theorem uc(a b k m:Nat):(kF a b k m).length=m:=by simp[kF]
theorem agD{a b k m j:Nat}(h:j<m):(kF a b k m).getD j 0=if j<k then iz a j else iz b j:=by
 simp[kF,aW,h]
theorem E6{a b k m:Nat}(h:k<m):(kF a b k m).getD k 0=iz b k:=by rw[agD h,aQ (fj k)]
theorem E7(a b m:Nat):kF a b 0 m=iJ b m:=by simp[kF,iJ]
theorem IX{a b k m:Nat}(h:m<=k):kF a b k m=iJ a m:=by
 unfold kF iJ;exact e9 fun j hj=>aR (bD (bI.1 hj) h)
theorem IY{a b k m:Nat}:(kF a b k m).set k (iz a k)=kF a b (k+1) m:=by
 apply gF
 .simp [kF]
 .intro j h1 h2
  have hj:j<m:=by simpa[kF]using h2
  rw[amW];by_cases h:k=j
  .subst h;simp[kF]
  .rw [aQ h]
   simp only[kF,gG,amX];by_cases q:j<k
   .rw [aR q,aR ae]
   .rw [aQ q,aQ ae]
theorem agE{a b k m:Nat}:(kF a b (k+1) m).set k (iz b k)=kF a b k m:=by
 apply gF
 .simp [kF]
 .intro j h1 h2
  have hj:j<m:=by simpa[kF]using h2
  rw[amW];by_cases h:k=j
  .subst h;simp[kF]
  .rw [aQ h]
   simp only[kF,gG,amX];by_cases q:j<k
   .rw [aR q,aR ae]
   .rw [aQ q,aQ ae]
theorem KO(a k:Nat):a/4294967296^k=4294967296*(a/4294967296^(k+1))+iz a k:=by
 rw[aZ,<-cz];unfold iz;omega
theorem akj{a d k:Nat}(hd:0<d)(sY:d<4294967296):(a/4294967296^(k+1)%d*4294967296+iz a k)/d=iz (a/d) k/\(a/4294967296^(k+1)%d*4294967296+iz a k)%d=a/4294967296^k%d:=by
 have e1:=KO a k;have e2:=bU (a/4294967296^(k+1)) d;have e3:=bg (a/4294967296^(k+1)) hd;have e4:=pA a k;have e5:a/4294967296^k=d*(4294967296*(a/4294967296^(k+1)/d))+(a/4294967296^(k+1)%d*4294967296+iz a k):=by
  rw[e1,cD];omega
 have e6:(a/4294967296^(k+1)%d*4294967296+iz a k)/d<4294967296:=by
  rw[bR hd];have:=bC 4294967296 (show a/4294967296^(k+1)%d+1<=d from e3);omega
 constructor
 .conv=>rhs;unfold iz
  rw[cz,a7 d,<-cz,e5,c9 hd,dw,bu e6]
 .rw [e5,dw]
theorem Rr{a b N:Nat}(ha:a<4294967296^N)(hb:b<4294967296^N)(h:∀ i,i<N->iz a i=iz b i):a=b:=by
 have e1:val (iJ a N)=a:=by rw[ux,bu ha]
 have e2:val (iJ b N)=b:=by rw[ux,bu hb]
 rw[<-e1,<-e2];congr 1;exact e9 fun j hj=>h j (bI.1 hj)
theorem abA{a b N j:Nat}(ha:a<4294967296^N)(hb:b<4294967296^N)(h:∀ i,j<=i->iz a i=iz b i):a/4294967296^j=b/4294967296^j:=by
 have e:∀ (n i:Nat),iz (n/4294967296^j) i=iz n (j+i):=fun n i=>by unfold iz;rw[cz,<-aV]
 refine Rr (N:=N) (bQ (bw _ _) ha) (bQ (bw _ _) hb) fun i _=>?_
 rw[e,e];exact h _ ae 
theorem Uw{a b N j:Nat}(ha:a<4294967296^N)(hb:b<4294967296^N)(h:∀ i,j<i->iz a i=iz b i)(hd:iz a j<iz b j):a<b:=by
 have e:=abA (j:=j+1) ha hb fun i hi=>h i hi
 have e1:=KO a j;have e2:=KO b j;have:a/4294967296^j<b/4294967296^j:= ae ;exact gE fun hle=>by
  have:=Nat.div_le_div_right (c:=4294967296^j) hle;omega
theorem P0{n k:Nat}(h:n<4294967296^(k+1))(hd:iz n k≠0):ia n=32*k+ia (iz n k):=by
 have e1:iz n k=n/4294967296^k:=by
  unfold iz;rw[bu];rw[bR (pw k),a7 4294967296,<-aZ];exact h
 have h1:=rj hd;have h2:=oM (iz n k);have h3:=mR hd;obtain⟨m,hm⟩:∃ m,ia (iz n k)=m+1:=⟨ia (iz n k)-1,ae⟩
 rw[hm]at h1 h2 ⊢;rw[dE]at h1;rw[<-cE];have hp:(4294967296:Nat)^k=2^(32*k):=nD k;refine uD ?_ ?_
 .rw [e1,cL (pw k),hp,<-aV,dR]at h1;exact h1
 .rw [e1,bR (pw k),hp,<-aV,show m+1+32*k=32*k+m+1 by omega]at h2;exact h2
def jy(a b k:Nat):Nat:=(a%4294967296^k+b%4294967296^k)/4294967296^k
theorem GP(a b:Nat):jy a b 0=0:=by unfold jy;simp[cH]
theorem sR(a b k:Nat):jy a b k<=1:=by
 unfold jy;have h1:=bg a (pw k);have h2:=bg b (pw k);have:(a%4294967296^k+b%4294967296^k)/4294967296^k<2:=by rw[bR (pw k)];omega
 omega
theorem Kd(a b k:Nat):(a+b)/4294967296^k=a/4294967296^k+b/4294967296^k+jy a b k:=by
 unfold jy;have h1:=bU a (4294967296^k);have h2:=bU b (4294967296^k);have h3:=c9 (pw k) (a/4294967296^k+b/4294967296^k) (a%4294967296^k+b%4294967296^k);rw[<-h3];congr 1;rw[bn];omega
theorem xI(a b k:Nat):iz a k+iz b k+jy a b k=iz (a+b) k+4294967296*jy a b (k+1):=by
 have h1:jy a b (k+1)=(iz a k+iz b k+jy a b k)/4294967296:=by
  conv=>lhs;unfold jy
  rw[mod_succ,mod_succ,aZ,<-cz];congr 1;have h3:=c9 (pw k) (iz a k+iz b k) (a%4294967296^k+b%4294967296^k);unfold jy;rw[<-h3];congr 1;rw[bn];omega
 have h2:iz (a+b) k=(iz a k+iz b k+jy a b k)%4294967296:=by
  conv=>lhs;unfold iz
  rw[Kd];unfold iz;omega
 rw[h1,h2];exact(dq _ _).symm
theorem aaU{a b k:Nat}(h:a+b<4294967296^k):jy a b k=0:=by
 have h0:=Kd a b k;rw[bT h]at h0;exact(Nat.add_eq_zero_iff.1 h0.symm).2
theorem aaV{a b k:Nat}(ha:a<4294967296^k)(hb:b<4294967296^k):jy a b (k+1)=0:=by
 apply aaU;rw[aZ];omega
theorem Xz{a b:Nat}(h:b<=a)(k:Nat):iz a k+4294967296-iz b k-jy (a-b) b k=iz (a-b) k+4294967296*(1-jy (a-b) b (k+1)):=by
 have h1:=xI (a-b) b k;rw[eD h]at h1;have h2:=sR (a-b) b (k+1);have h3:=pA b k;have h4:=sR (a-b) b k;have h5:=pA (a-b) k;omega
theorem akl(n s k:Nat):iz (n/2^s) k=((iz n (k+s/32)+4294967296*iz n (k+s/32+1))/2^(s%32))%4294967296:=by
 have e:2^s*4294967296^k=4294967296^(k+s/32)*2^(s%32):=by
  rw[nD,nD,<-aV,<-aV];congr 1;omega
 unfold iz;rw[cz,e,<-cz,aZ,<-cz];generalize n/4294967296^(k+s/32)=N;have hr:s%32<32:=bg _ ag;generalize s%32=r at *
 have h1:N%4294967296+4294967296*(N/4294967296%4294967296)=N%(4294967296*4294967296):=(fK).symm;rw[h1];have h2:N=4294967296*(N/(4294967296*4294967296))*4294967296+N%(4294967296*4294967296):=by
  have:=bU N (4294967296*4294967296);omega
 have h3:(4294967296:Nat)=2^r*2^(32-r):=by rw[<-aV,show r+(32-r)=32 by omega]
 generalize N%(4294967296*4294967296)=u at *
 generalize N/(4294967296*4294967296)=t at *
 have h4:N/2^r=4294967296*(t*2^(32-r))+u/2^r:=by
  rw[h2];have e2:4294967296*t*4294967296=2^r*(4294967296*(t*2^(32-r))):=by
   conv=>lhs;rw[a7]
   conv=>lhs;lhs;rw[h3]
   rw[bc,cD (2^(32-r)),a7 (2^(32-r)) t]
  rw[e2,c9 (aY ag)]
 rw[h4,dw]
theorem aki{O:List Nat}{P x n k m:Nat}(hx:x<4294967296)(hO:O=iJ (P*2^n) m)(hP:P<4294967296^k)(hm:k+n/32+1<m):
 (O.getD (k+n/32) 0)<2^(n%32)/\((O.set (k+n/32) (O.getD (k+n/32) 0+x*2^(n%32)%4294967296)).set (k+n/32+1) (x*2^(n%32)/4294967296))=iJ ((P+4294967296^k*x)*2^n) m:=by
 have hr:n%32<32:=bg _ ag;have hq:(2:Nat)^n=2^(n%32)*4294967296^(n/32):=by rw[nD,<-aV];congr 1;omega
 have xU:2^(n%32)<=2^31:=bh ag ae;have Ej:(2:Nat)^31=2147483648:= ag ;have pR:0<2^(n%32):=aY ag;have kV:iC O:=by rw[hO];exact rU _ _
 have hlen:O.length=m:=by rw[hO,mC]
 have hN:P*2^n<4294967296^(k+n/32)*2^(n%32):=by
  have h1:P*2^(n%32)<4294967296^k*2^(n%32):=cC hP pR;have h2:=cC h1 (pw (n/32));rw[hq,<-bc,aV,fz (4294967296^k)];exact h2
 have sW:P*2^n<4294967296^(k+n/32+1):=by
  rw[aZ];exact bD hN (ca _ ae)
 have o1:O.getD (k+n/32) 0=P*2^n/4294967296^(k+n/32):=by
  rw[hO,sT ae];unfold iz;rw[bu];rw[bR (pw _),a7 4294967296,<-aZ];exact sW
 have o2:O.getD (k+n/32+1) 0=0:=by rw[hO,sT hm];exact uH sW (aU _)
 have o3:O.getD (k+n/32) 0<2^(n%32):=by
  rw[o1,bR (pw _),a7 (2^(n%32))];exact hN
 refine⟨o3,?_⟩;have qW:x*2^(n%32)<4294967296*2^(n%32):=cC hx pR;have zP:O.getD (k+n/32) 0+x*2^(n%32)%4294967296<4294967296:=by
  have h3:(4294967296:Nat)=2^(n%32)*2^(32-n%32):=by rw[<-aV,show n%32+(32-n%32)=32 by omega]
  have h4:x*2^(n%32)%4294967296=2^(n%32)*(x%2^(32-n%32)):=by
   conv=>lhs;rw[a7];rhs;rw[h3]
   exact gr _ _ _
  have h5:x%2^(32-n%32)<2^(32-n%32):=bg _ (aY ag);have h6:=ca (2^(n%32)) (show x%2^(32-n%32)+1<=2^(32-n%32)from h5);rw[<-h3,bn,bO]at h6;omega
 have oe:k+n/32<O.length:= ae ;have xg:=xz (x:=O.getD (k+n/32) 0+x*2^(n%32)%4294967296) oe;have sD:k+n/32+1<(O.set (k+n/32) (O.getD (k+n/32) 0+x*2^(n%32)%4294967296)).length:=by rw[cv];omega
 have rJ:=xz (x:=x*2^(n%32)/4294967296) sD;rw[uN ae,o2,cr,bt]at rJ;refine(Co ((kV.set _ zP).set _ ?_) (by rw[cv,cv,hlen]) ?_).symm
 .rw [bR ag]
  exact bD qW (ca _ ae)
 .have rI:val O=P*2^n:=by
   rw[hO,ux,bu];exact bD sW (bh ag ae)
  rw[rJ];rw[rI,bn]at xg;have e1:=dq (x*2^(n%32)) 4294967296;have e2:=congrArg (4294967296^(k+n/32) * ·) e1;simp only[bn]at e2;have e3:4294967296^(k+n/32)*(x*2^(n%32))=4294967296^k*x*2^n:=by
   rw[hq,aV];simp only[bc,a7,cD]
  rw[aZ,bc,bK];rw[e3]at e2;omega
def lO(r b k:Nat):Nat:=(2*(r%4294967296^k)+b)/4294967296^k
theorem KK(r b:Nat):lO r b 0=b:=by unfold lO;simp[cH]
theorem GX{r b:Nat}(hb:b<=1)(k:Nat):lO r b k<=1:=by
 unfold lO;have h1:=bg r (pw k);have:(2*(r%4294967296^k)+b)/4294967296^k<2:=by rw[bR (pw k)];omega
 omega
theorem GY{r b:Nat}(hb:b<=1)(k:Nat):iz (2*r+b) k=2*iz r k%4294967296+lO r b k/\lO r b (k+1)=iz r k/2147483648:=by
 have h1:(2*r+b)/4294967296^k=2*(r/4294967296^k)+lO r b k:=by
  unfold lO;have h1:=bU r (4294967296^k);have h3:=c9 (pw k) (2*(r/4294967296^k)) (2*(r%4294967296^k)+b);rw[<-h3];congr 1;rw[cD];omega
 have h2:=GX (r:=r) hb k;have h3:lO r b (k+1)=(2*iz r k+lO r b k)/4294967296:=by
  conv=>lhs;unfold lO
  rw[mod_succ,aZ,<-cz];congr 1;have h3:=c9 (pw k) (2*iz r k) (2*(r%4294967296^k)+b);unfold lO;rw[<-h3];congr 1;rw[cD];omega
 have h4:iz (2*r+b) k=(2*iz r k+lO r b k)%4294967296:=by
  conv=>lhs;unfold iz
  rw[h1];unfold iz;omega
 have h5:=pA r k;constructor
 .rw [h4];omega
 .rw [h3];omega
structure rS(U0:Nat)(V:List Nat)(k m:Nat)(O Q:List Nat):Prop where
 Uc:O.length=m
 EW:Q.length=m-V.length
 yL:iC O
 BI:iC Q
 eq:val O+val V*val Q=U0
 lt:val O<val V*4294967296^k
 qz:∀ i,i<k->Q.getD i 0=0
theorem rS.step{U0 k m x:Nat}{V O Q O2:List Nat}(h:rS U0 V (k+1) m O Q)(hk:k<m-V.length)(hl:O2.length=m)(kV:iC O2)(hx:x<4294967296)
 (he:val O2+x*(4294967296^k*val V)=val O) (iD:val O2<val V*4294967296^k):rS U0 V k m O2 (Q.set k x):=by
 have yh:k<Q.length:=by rw[h.EW];exact hk
 have hv:=xz (x:=x) yh;rw[h.qz k (Nat.lt_succ_self k),cr,bt]at hv;refine⟨hl,by rw[cv];exact h.EW,kV,h.BI.set _ hx,?_,iD,fun i hi=>by rw[uN ae];exact h.qz i ae⟩;rw[hv,bn,show val V*(4294967296^k*x)=x*(4294967296^k*val V)by simp only[a7,cD,bc]];have:=h.eq;omega
theorem rS.zero{U0 k m:Nat}{V O Q:List Nat}(h:rS U0 V (k+1) m O Q)(hV:iC V){i:Nat}(hi:k+V.length<i):O.getD i 0=0:=by
 refine alm h.yL (k:=k+V.length+1) ?_ hi;refine fk h.lt ?_;have:=cC (lY hV) (pw (k+1));rw[<-aV,show V.length+(k+1)=k+V.length+1 by omega]at this;exact this
theorem rS.ad3{U0 k m:Nat}{V O Q:List Nat}(h:rS U0 V (k+1) m O Q)(hV:iC V)(hn:2<=V.length)(hN:2147483648<=V.getD (V.length-1) 0):
 O.getD (k+V.length) 0<=V.getD (V.length-1) 0/\∀ g,g<=4294967295 ->
  g<=((O.getD (k+V.length) 0*4294967296+O.getD (k+V.length-1) 0)*4294967296+O.getD (k+V.length-2) 0)/(V.getD (V.length-1) 0*4294967296+V.getD (V.length-2) 0) ->
  (g=4294967295\/((O.getD (k+V.length) 0*4294967296+O.getD (k+V.length-1) 0)*4294967296+O.getD (k+V.length-2) 0)/(V.getD (V.length-1) 0*4294967296+V.getD (V.length-2) 0)<=g) ->
  val O/4294967296^k/val V<=g/\g<=val O/4294967296^k/val V+1:=by
 have t3:=XV h.yL (j:=k) hn (fun i hi=>h.zero hV hi);have t2:=alj hV hn rfl;have hU:val O/4294967296^k<4294967296*val V:=by
  rw[bR (pw k)];have:=h.lt;rw[aZ]at this;rw[show 4294967296*val V*4294967296^k=val V*(4294967296^k*4294967296)by simp only[a7,cD,bc]];exact this
 have w1:=h.yL.getD (k+V.length-1);have w2:=h.yL.getD (k+V.length-2);have w3:=hV.getD (V.length-2);refine⟨?_,fun g g1 g2 g3=>?_⟩
 .have hP:=pw (V.length-2)
  have h1:val V<(V.getD (V.length-1) 0*4294967296+V.getD (V.length-2) 0+1)*4294967296^(V.length-2):=by
   rw[<-t2,<-bR hP];omega
  have h2:val O/4294967296^k/4294967296^(V.length-2)<4294967296*(V.getD (V.length-1) 0*4294967296+V.getD (V.length-2) 0+1):=by
   rw[bR hP];refine bD hU ?_;rw[bc];exact ca _ (cW h1)
  rw[t3]at h2;omega
 .rw [<-t3,<-t2]at g2 g3
  exact afT (pw _) (by rw[t2];omega) hU g1 g2 g3
theorem rS.Vr{U0 k m x:Nat}{V O Q O':List Nat}(h:rS U0 V (k+1) m O Q)(hV:iC V)(kV:iC O')(hv:val O'+x*(4294967296^k*val V)=val O+4294967296^(k+V.length+1)*1)
 (hs:∀ i,k+V.length<i->O'.getD i 0=O.getD i 0):val O'<4294967296^(k+V.length+1)/\0<x:=by
 have h1:val O'<4294967296^(k+V.length+1):=JU kV fun i hi=>by rw[hs i ae];exact h.zero hV ae 
 refine⟨h1,?_⟩;rcases dV x with h0|h0
 .subst h0;rw[ch]at hv;omega
 .exact h0
theorem rS.ZK{U0 k m x κ:Nat}{V O Q O' O2:List Nat}(h:rS U0 V (k+1) m O Q)(hV:iC V)(hk:k<m-V.length)(kV:iC O')(hv:val O'+x*(4294967296^k*val V)=val O+4294967296^(k+V.length+1)*1)
 (hs:∀ i,k+V.length<i->O'.getD i 0=O.getD i 0) (hx:x<=4294967295) (qW:x<=val O/4294967296^k/val V+1) (vP:0<val V) (ns:O2.length=m) (Iu:iC O2) (hκ:κ<=1)
 (h2:val O2+4294967296^(k+V.length+1)*κ=val O'+4294967296^k*val V) (ky:∀ i,k+V.length<i->O2.getD i 0=O'.getD i 0):rS U0 V k m O2 (Q.set k (x-1)):=by
 obtain⟨h1,h0⟩:=h.Vr hV kV hv hs;have h3:val O2<4294967296^(k+V.length+1):=JU Iu fun i hi=>by rw[ky i ae,hs i ae];exact h.zero hV ae 
 rw[bO]at hv;obtain⟨_,_,e,l⟩:=abp (pw k) vP hv h1 qW hκ h2 h3;exact h.step (x:=x-1) hk ns Iu ae e l
theorem ahc{L:List Nat}{x s l:Nat}(hk:iC L)(hl:L.length=l+1)(hx:L.getD l 0=x)(mj:x≠0)(hs:s=32-ia x):
 s<32/\(gU (val L*2^s)).length=l+1/\2147483648<=(gU (val L*2^s)).getD l 0/\4294967296^l*2147483648<=val L*2^s/\val L*2^s<4294967296^(l+1):=by
 have my:x<4294967296:=by rw[<-hx];exact hk.getD l
 have iZ:=mR mj;have mc:ia x<=32:=kN.2 my;have h1:=rj mj;have h2:=oM x;have e1:2^(ia x-1)*2^s=2147483648:=by rw[<-aV,show ia x-1+s=31 by omega]
 have e2:2^ia x*2^s=4294967296:=by rw[<-aV,show ia x+s=32 by omega]
 have hp:0<2^s:=aY ag;have hv:val L=val (L.take l)+4294967296^l*x:=by
  have:=uy L l;rw[ck ae,hx]at this;exact this
 have zP:val (L.take l)<4294967296^l:=by
  have:=lY (hk.take l);rw[bZ,cR ae]at this;exact this
 have g1:4294967296^l*2147483648<=val L*2^s:=by
  rw[<-e1,<-bc];refine bC _ ?_;rw[hv];exact aX (ca _ h1) (Nat.le_add_left _ _)
 have g2:val L*2^s<4294967296^(l+1):=by
  have e3:4294967296^(l+1)=4294967296^l*(2^ia x*2^s):=by rw[aZ,e2]
  rw[e3,<-bc];refine cC ?_ hp;rw[hv];have:=ca (4294967296^l) (show x+1<=2^ia x from h2);rw[bn,bO]at this;omega
 have hlen:(gU (val L*2^s)).length=l+1:=by
  have u1:=qX g2;have u2:¬(gU (val L*2^s)).length<=l:=fun h=>by
   have:=ub h;have:=pw l;omega
  omega
 refine⟨ae,hlen,?_,g1,g2⟩;rw[pB (kB _),jC];unfold iz;rw[bu (by rw[bR (pw l),a7 4294967296,<-aZ];exact g2),cL (pw l),a7];exact g1
theorem rS.start{A s:Nat}{V O:List Nat}(hO:iC O)(hv:val O=A*2^s){la:Nat}(hA:A<4294967296^la)(hl:O.length=la+1)(hs:s<32)(hn:1<=V.length)(kg:V.length<=la)(hV:4294967296^(V.length-1)*2147483648<=val V):
 rS (A*2^s) V (la+1-V.length) (la+1) O (List.replicate (la+1-V.length) 0):=by
 refine⟨hl,aj,hO,iC.BQ _,by rw[y4,cr,bt,hv],?_,fun i _=>?_⟩
 .rw [hv]
  have xU:2^s<=2^31:=bh ag ae;have Ej:(2:Nat)^31=2147483648:= ag ;rw[Ej]at xU;have h1:A*2^s<4294967296^la*2^s:=cC hA (aY ag);have h2:=ca (4294967296^la) xU;have h3:=bC (4294967296^(la+1-V.length)) hV;rw[fz,<-aV,show V.length-1+(la+1-V.length)=la by omega]at h3;omega
 .rw [aW,fH];split<;>rfl
end Go.Proofs.YtdgnpeddgdclhaaGreatDoor.Fp
namespace Go.Proofs.YtdgnpeddgdclhaaGreatDoor
open Go.RowKit Fp Pu
theorem AH{n:Nat}{L:List Nat}(h:n=L.length):(E.sl false n 1 (jb L))=gX L:=by subst h;rfl
theorem DH(n:Nat)(h:n<18446744073709551616):bits .and .u64 (n:Int) 4294967295=((n%4294967296:Nat):Int):=by
 have:=OH n 4294967295 h ag;rw[show((4294967295:Int))=((4294967295:Nat):Int)from rfl,this];exact congrArg _ (amO n 32)
theorem JO(n:Nat)(h:n<4294967296):bits .and .u32 (n:Int) 1=((n%2:Nat):Int):=by
 have:=bits_and_u32_nat n 1 h ag;rw[show((1:Int))=((1:Nat):Int)from rfl,this];exact congrArg _ (gj n)
theorem Dz(n:Nat)(h:n<4294967296):IntKind.u64.wrap ((n:Int)*2^32)=((n*4294967296:Nat):Int):=by rw[IntKind.wrap_u64];omega
theorem Fu(a b:Nat)(ha:a<4294967296)(hb:b<4294967296):bits .or .u64 ((a*4294967296:Nat):Int) (b:Int)=((a*4294967296+b:Nat):Int):=by
 rw[JP _ _ ae ae,fG,show a*4294967296=a*2^32 by rfl,Aq b a 32 (by simpa using hb),dR]
theorem Dt{T n n' p:Nat}{L L':List Nat}{z:Nat}(hn:n=n')(hp:p<L.length)(hs:L.set p z=L'):Bx.le (.row false T n 1 fun i' j'=>if i'=p/\0<=j'/\j'<0+1 then[.v (.int .u32 (z:Int))].getD (j'-0) .any else(jb L) i' j') (.row false T n' 1 (jb L')):=hs▸N5 hn hp
theorem Ah{T n n':Nat}{N:Nat}{z:Int}(hn:n'=n+1)(hz:z=(iz N n:Int)):
 Bx.le (.row false T (n+1) 1 fun i_ j_=>if i_<n then(jb (iJ N n)) i_ j_ else(E.lZ (.sl false 1 1 fun i_ j_=>[(.v (.int .u32 z))].getD (i_*1+j_) (.v (.bool false)))) (i_-n) j_) (.row false T n' 1 (jb (iJ N n'))):=by
 subst hn hz;refine .row rfl fun i j hi hj=>?_
 obtain rfl:j=0:= ae ;refine⟨.iS ?_,rfl⟩;by_cases h:i<n
 .rw [aR h]
  show E.v (.int .u32 (((iJ N n).getD i 0:Nat):Int))=E.v (.int .u32 (((iJ N (n+1)).getD i 0:Nat):Int));rw[sT h,sT hi]
 .obtain rfl:i=n:= ae 
  rw[aQ (fj i)];show E.lZ _ (i-i) 0=E.v (.int .u32 (((iJ N (i+1)).getD i 0:Nat):Int));rw[sT (Nat.lt_succ_self i),cT];rfl
open Go.RowKit Fp Pu
def QO(q rest third v w:Nat)(x:Nat):PS:=⟨32,true,[(0,.e (.v (.int .u64 (((q-x):Nat):Int)))),(1,.e (.v (.int .u64 (((rest+(x*v)):Nat):Int)))),(2,.e (.v (.int .u32 (third:Int)))),(3,.e (.v (.int .u32 (v:Int)))),(4,.e (.v (.int .u32 (w:Int))))],[]⟩
def Xe(L:List Nat)(d:Nat)(x:Nat):PS:=⟨34,false,[(8,.e (iP ((L.length:Int)-1-(x:Int)))),(7,.e (.v (.int .u32 (((val L/4294967296^(L.length-x)%d):Nat):Int)))),(6,.own 11),(0,.e (gX L)),(1,.e (.v (.int .u32 (d:Int))))],[(11,.row false 79 L.length 1 (jb (kF 0 (val L/d) (L.length-x) L.length)))]⟩
theorem abu(h l d:Nat)(h1:h<d)(h2:l<4294967296)(h3:d<4294967296):gV 344 [(.v (.int .u32 (h:Int))),(.v (.int .u32 (l:Int))),(.v (.int .u32 (d:Int)))] (.iw [.v (.int .u32 ((((h*4294967296+l)/d:Nat)):Int)),.v (.int .u32 ((((h*4294967296+l)%d:Nat)):Int))]):=by
 have e1:(h*4294967296+l)/d<4294967296:=by rw[bR ae];omega
 have e2:(h*4294967296+l)%d<4294967296:=fk (bg _ ae) h3;exact tr true Tryz.call344 Tryz.func344 (chain [tB 10 (av:((d:Int) != 0)=true),tF 14 ((d:Int)<=(h:Int)) ae,.o 18 (.int (px _ ae):PV.le (.e (.v (.int .u64 (IntKind.u64.wrap (h:Int))))) (.e (.v (.int .u64 (h:Int))))),.a (ae:0<=(32:Int)/\(32:Int)<=((64:Nat):Int)),.o 19 (.int (Dz _ ae):PV.le (.e (.v (.int .u64 (IntKind.u64.wrap ((h:Int)*2^32))))) (.e (.v (.int .u64 (((h*4294967296):Nat):Int))))),.o 21 (.int (px _ ae):PV.le (.e (.v (.int .u64 (IntKind.u64.wrap (l:Int))))) (.e (.v (.int .u64 (l:Int))))),.o 22 (.int (Fu _ _ ae ae):PV.le (.e (.v (.int .u64 (bits .or .u64 (((h*4294967296):Nat):Int) (l:Int))))) (.e (.v (.int .u64 (((h*4294967296+l):Nat):Int))))),.o 25 (.int (px _ ae):PV.le (.e (.v (.int .u64 (IntKind.u64.wrap (d:Int))))) (.e (.v (.int .u64 (d:Int))))),.a (ae:0<((d:Int):Int)),
  pd ((((h*4294967296+l):Nat):Int)) ae,.o 27 (.int (uq _):PV.le (.e (.v (.int .u32 (IntKind.u32.wrap ((((h*4294967296+l)/d):Nat):Int))))) (.e (.v (.int .u32 (((((h*4294967296+l)/d)%4294967296):Nat):Int))))),.o 30 (.int (px _ ae):PV.le (.e (.v (.int .u64 (IntKind.u64.wrap (d:Int))))) (.e (.v (.int .u64 (d:Int))))),.a (ae:0<((d:Int):Int)),.o 32 (.int (uq _):PV.le (.e (.v (.int .u32 (IntKind.u32.wrap ((((h*4294967296+l)%d):Nat):Int))))) (.e (.v (.int .u32 (((((h*4294967296+l)%d)%4294967296):Nat):Int)))))]<|rQ (.iw [(.v (.int .u32 (((((h*4294967296+l)/d)%4294967296):Nat):Int))),(.v (.int .u32 (((((h*4294967296+l)%d)%4294967296):Nat):Int)))]) (.iw [.v (.int .u32 ((((h*4294967296+l)/d:Nat)):Int)),.v (.int .u32 ((((h*4294967296+l)%d:Nat)):Int))]) (by rw[bu e1,bu e2])) ah 
theorem amG(q rest third v w N:Nat)(hq:q<=4294967295)(hr:rest<9223372036854775808)(ht:third<4294967296)(hv:v<4294967296)(hw:w<4294967296)(hNq:N<=q)(iH:∀ x,x<N->sw q rest third v w x)(g1:¬rest+N*v<4294967296):gV 345 [(.v (.int .u64 (q:Int))),(.v (.int .u64 (rest:Int))),(.v (.int .u32 (third:Int))),(.v (.int .u32 (v:Int))),(.v (.int .u32 (w:Int)))] (.v (.int .u64 (((q-N:Nat)):Int))):=by
 exact tr true Tryz.call345 Tryz.func345 (chain [.s (Sp.jv (QO q rest third v w) 0 N ae (fun x hx kf=>by
    obtain⟨g1,g2⟩:=iH x ae;have m1:(q-x)*w<=4294967295*4294967295:=cK ae ae;have g3:0<q-x:=by
     rcases dV (q-x)with h|h
     .rw [h,ch]at g2;omega
     .exact h
    exact iB (chain [tT 12 ((((rest+(x*v)):Nat):Int)<4294967296) ae,.o 16 (.int (px _ ae):PV.le (.e (.v (.int .u64 (IntKind.u64.wrap (w:Int))))) (.e (.v (.int .u64 (w:Int))))),
     pd ((((q-x):Nat):Int)*(w:Int)) ae,.a (ae:0<=(32:Int)/\(32:Int)<=((64:Nat):Int)),.o 19 (.int (Dz _ ae):PV.le (.e (.v (.int .u64 (IntKind.u64.wrap ((((rest+(x*v)):Nat):Int)*2^32))))) (.e (.v (.int .u64 ((((rest+(x*v))*4294967296):Nat):Int))))),.o 21 (.int (px _ ae):PV.le (.e (.v (.int .u64 (IntKind.u64.wrap (third:Int))))) (.e (.v (.int .u64 (third:Int))))),.o 22 (.int (Fu _ _ ae ae):PV.le (.e (.v (.int .u64 (bits .or .u64 ((((rest+(x*v))*4294967296):Nat):Int) (third:Int))))) (.e (.v (.int .u64 (((((rest+(x*v))*4294967296)+third):Nat):Int))))),tT 23 ((((((rest+(x*v))*4294967296)+third):Nat):Int)<((((q-x)*w):Nat):Int)) (Int.ofNat_lt.2 g2),pd ((((q-x):Nat):Int)-1) ae,.o 29 (.int (px _ ae):PV.le (.e (.v (.int .u64 (IntKind.u64.wrap (v:Int))))) (.e (.v (.int .u64 (v:Int))))),pd ((((rest+(x*v)):Nat):Int)+(v:Int)) ae]<|.e (chain [.o 0 (.int aw:PV.le (.e (.v (.int .u64 ((((q-x):Nat):Int)-1)))) (.e (.v (.int .u64 (((q-(x+1)):Nat):Int))))),.o 1 (.int aw:PV.le (.e (.v (.int .u64 ((((rest+(x*v))+v):Nat):Int)))) (.e (.v (.int .u64 (((rest+((x+1)*v)):Nat):Int)))))]<|.nil)) ah)
  (fun hx=>by
    have m1:(q-N)*w<=4294967295*4294967295:=cK ae ae;exact iB (chain [tF 12 ((((rest+(N*v)):Nat):Int)<4294967296) ae]<|.nil) ah) ak:jq 1 Tryz.f345 (QO q rest third v w 0) (.exit 0) ⟨32,true,[(0,.e (.v (.int .u64 (((q-N):Nat):Int))))],[]⟩) (chain [.o 0 (.int aw:PV.le (.e (.v (.int .u64 (q:Int)))) (.e (.v (.int .u64 (((q-0):Nat):Int))))),.o 1 (.int aw:PV.le (.e (.v (.int .u64 (rest:Int)))) (.e (.v (.int .u64 (((rest+(0*v)):Nat):Int)))))]<|.nil)]<|.nil) ah 
theorem agP(L:List Nat)(d:Nat)(hk:iC L)(hl:L.length<=1000000)(uS:0<d)(sY:d<4294967296):gV 338 [(gX L),(.v (.int .u32 (d:Int)))] (.iw [gX (iJ (val L/d) L.length),.v (.int .u32 (((val L%d:Nat)):Int))]):=by
 exact tr false Tryz.call338 Tryz.func338 (chain [.a (ae:0<=((L.length:Int):Int)/\((L.length:Int):Int)<=((L.length:Int):Int)),.a (ae:((4:Nat):Int)*(L.length:Int)<=281474976710656/\((L.length:Int):Int)<=9223372036854775807),iq ((L.length:Int)-1) ae,.s (Sp.jv (Xe L d) 0 L.length ae (fun x hx kf=>by
    have SV:((L.length:Int)-1-(x:Int)).toNat=L.length-1-x:= ae ;have hld:((L.getD ((L.length:Int)-1-(x:Int)).toNat 0:Nat):Int)=(iz (val L) (L.length-1-x):Int):=by rw[SV,pB hk]
    have uZ:=akj (a:=val L) (k:=L.length-1-x) uS sY;have rD:L.length-1-x+1=L.length-x:= ae ;have j9:L.length-(x+1)=L.length-1-x:= ae ;rw[rD]at uZ;have Ip:=bg (val L/4294967296^(L.length-x)) uS;have LR:=pA (val L) (L.length-1-x);have tV:(kF 0 (val L/d) (L.length-x) L.length).set ((L.length:Int)-1-(x:Int)).toNat ((val L/4294967296^(L.length-x)%d*4294967296+iz (val L) (L.length-1-x))/d)=kF 0 (val L/d) (L.length-(x+1)) L.length:=by
     rw[SV,uZ.1,<-rD,agE,j9]
    exact iB (chain [tT 16 (0<=((L.length:Int)-1-(x:Int))) ae,iX (((L.length:Int)-1-(x:Int))) (L.length) ae,.o 26 (.int hld:PV.le (.e (.v (.int .u32 (((L.getD (((L.length:Int)-1-(x:Int))).toNat 0):Nat):Int)))) (.e (.v (.int .u32 (iz (val L) (L.length-1-x):Int))))),.c (abu _ _ _ ae ae ae:gV 344 [(.v (.int .u32 (((val L/4294967296^(L.length-x)%d):Nat):Int))),(.v (.int .u32 (iz (val L) (L.length-1-x):Int))),(.v (.int .u32 (d:Int)))] _),
     iX (((L.length:Int)-1-(x:Int))) (L.length) ae,.a (ae:(((L.length:Int)-1-(x:Int))).toNat<L.length),iq (((L.length:Int)-1-(x:Int))-1) ae]<|.e (chain [.o 8 (.int aw:PV.le (.e (iP (((L.length:Int)-1-(x:Int))-1))) (.e (iP ((L.length:Int)-1-(((x+1):Nat):Int))))),.o 7 (.int (by rw[uZ.2,j9]):PV.le (.e (.v (.int .u32 (((((val L/4294967296^(L.length-x)%d)*4294967296+(iz (val L) (L.length-1-x)))%d):Nat):Int)))) (.e (.v (.int .u32 (((val L/4294967296^(L.length-(x+1))%d):Nat):Int))))),.b 11 (Dt rfl aG tV:Bx.le (.row false 79 L.length 1 (fun i' j'=>if i'=(((L.length:Int)-1-(x:Int))).toNat/\0<=j'/\j'<0+1 then[(.v (.int .u32 (((((val L/4294967296^(L.length-x)%d)*4294967296+(iz (val L) (L.length-1-x)))/d):Nat):Int)))].getD (j'-0) .any else(jb (kF 0 (val L/d) (L.length-x) L.length)) i' j')) (.row false 79 L.length 1 (jb (kF 0 (val L/d) (L.length-(x+1)) L.length))))]<|.nil)) ah)
  (fun hx=>by
    exact iB (chain [tF 16 (0<=((L.length:Int)-1-(L.length:Int))) ae]<|.nil) ah) ak:jq 4 Tryz.f338 (Xe L d 0) (.exit 0) ⟨34,false,[(7,.e (.v (.int .u32 (((val L/4294967296^(L.length-L.length)%d):Nat):Int)))),(6,.own 11)],[(11,.row false 79 L.length 1 (jb (kF 0 (val L/d) (L.length-L.length) L.length)))]⟩) (chain [.o 8 (.int aw:PV.le (.e (iP ((L.length:Int)-1))) (.e (iP ((L.length:Int)-1-((0:Nat):Int))))),.o 7 (.int (by rw[dh,bT (lY hk),Nat.zero_mod];rfl):PV.le (.e (.v (.int .u32 0))) (.e (.v (.int .u32 (((val L/4294967296^(L.length-0)%d):Nat):Int))))),.b 11 (FT rfl (fun i=>by rw[dh,IX (aU _),GZ]):Bx.le (.row false 79 L.length 1 (fun _ j_=>[(.v (.int .u32 0))].getD j_ .any)) (.row false 79 L.length 1 (jb (kF 0 (val L/d) (L.length-0) L.length))))]<|.nil)]<|rR (.iw [gX (iJ (val L/d) L.length),.v (.int .u32 (((val L%d:Nat)):Int))]) (.iw (.cons (by rw[cT,E7];exact yU (mC _ _).symm) (.cons (.iS (by rw[cT,bN,dC])) .nil)):E.le (.iw [(.sl false L.length 1 (jb (kF 0 (val L/d) (L.length-L.length) L.length))),(.v (.int .u32 (((val L/4294967296^(L.length-L.length)%d):Nat):Int)))]) (.iw [gX (iJ (val L/d) L.length),.v (.int .u32 (((val L%d:Nat)):Int))]))) ah 
open Go.RowKit Fp
def YK(w:World)(T S:List Nat)(e:Ending)(w':World):Prop:=∃ A c B d,e = .returned (.tuple #[.slice A T.length c,.slice B S.length d])/\Sl w' A c T/\Sl w' B d S/\iy w w'
theorem Ow.rx{w:World}{base:Nat}{v:Value}{L:List Nat}(h:Ow w base v L)(hl:L≠[]):∃ g cap R,v = .slice (some ⟨g,0,none⟩) L.length cap/\base<=g/\g<w.heap.size/\Rx w g L R/\L.length<=cap/\cap<=maxLen:=by
 rcases h.row.2 with⟨_,h0⟩|⟨g,cap,cur,rfl,hb,hg,pQ,nU,nK,EJ⟩
 .exact absurd (de h0) hl
 .refine ⟨g,cap,cur.toList.drop L.length,rfl,hb,(cP.1 hg).1,?_,pQ,nU⟩
  unfold Rx;rw[hg];rw[bO]at EJ;rw[<-EJ,gL]
theorem Rx.sl{w:World}{b cap:Nat}{L:List Nat}{R:List Value}(h:Rx w b L R)(hk:iC L)(hc:L.length<=cap)(hm:cap<=maxLen)(n:Nat):Sl w (some ⟨b,0,none⟩) cap (L.take n):=
 ⟨by rw[bZ];omega,by unfold maxLen at hm;omega,hk.take n,(fun h=>by cases h),fun i x hx=>by
  rw[dQ]at hx;split at hx
  .obtain ⟨hi,zY⟩:=bV.1 hx
   refine⟨_,_,rfl,h.lt,?_⟩;rw[bX,h.cell hi];simp[aW,hx]
  .cases hx⟩
theorem agr(x:Nat)(hx:x<4294967296)(w:World):
 Calls Tryz.prog 339 #[.int .u32 x] w fun e w'=>e = .returned (.int .i64 ((32-ia x:Nat):Int))/\w=w':=by
 have mc:ia x<=32:=kN.2 hx;have H:=Lib.hid (fun w=>Ub x hx w);go_enter Tryz.func339,Tryz.ntmps339;go_wp2_with fail;refine(H.out _).mono ?_;rintro e w' ⟨rfl,rfl⟩;go_wp2;go_ret;exact⟨oj ae,rfl⟩
theorem QR(q rest third v w0 N:Nat)(w:World)(hq:q<=4294967295)(hr:rest<9223372036854775808)(ht:third<4294967296)(hv:v<4294967296)(hw:w0<4294967296)(hNq:N<=q)(iH:∀ x,x<N->sw q rest third v w0 x)(hN:¬sw q rest third v w0 N):
 Calls Tryz.prog 345 #[.int .u64 q,.int .u64 rest,.int .u32 third,.int .u32 v,.int .u32 w0] w fun e w'=>e = .returned (.int .u64 ((q-N:Nat):Int))/\w=w':=by
 have HLO:=Lib.hid iH;have HNN:=Lib.hid hN;clear iH hN;go_enter Tryz.func345,Tryz.ntmps345;go_wp2;go_loop [0,1] (fun a b=>∃ k:Nat,k<=N/\a = .int .u64 ((q-k:Nat):Int)/\b = .int .u64 ((rest+k*v:Nat):Int)) (fun a _=>(intOf a).toNat+0*N)
 case atStart=>exact⟨0,bL _,by go_num,by go_num⟩
 case round=>
  obtain⟨k,hk,rfl,rfl⟩:=hrel;have m1:(q-k)*w0<=4294967295*4294967295:=cK ae ae;have m2:(q-k)*w0=(q-k)*w0:=rfl;by_cases iD:k<N
  .have hc:=HLO.out k iD
   have s7:0<q-k:= ae ;have S6:rest+(k+1)*v=rest+k*v+v:=by rw[bK,bJ];omega
   have HX:=Lib.hid S6;clear S6;unfold sw at hc;have yx:IntKind.u64.wrap (((q-k:Nat):Int)*(w0:Int))=(((q-k)*w0:Nat):Int):=by rw[<-dH];exact px _ ae 
   generalize rest+k*v=y at *
   generalize hz:(q-k)*w0=z at *
   have CR:q-k=q-(k+1)+1:= ae ;have HQ:=Lib.hid CR;obtain⟨p,hp⟩:∃ p,p=q-k:=⟨_,rfl⟩
   rw[<-hp]at yx s7 CR HQ ⊢;have HP:=Lib.hid hp;have Bl:p<=4294967295:= ae ;clear hp hz CR;have Bn:=Dz y hc.1;have s5:=Fu y third hc.1 ht;have g2:=hc.2;have g1:=hc.1;clear hc;rw[show((y*4294967296:Nat):Int)=(y:Int)*4294967296 by omega]at s5 Bn;have d1:decide ((y:Int)<4294967296)=true:=aS ae;have d2:decide ((y:Int)*4294967296+(third:Int)<(z:Int))=true:=aS ae;have Im:IntKind.u64.wrap ((p:Int)-1)=((p-1:Nat):Int):=by rw[IntKind.wrap_u64];omega
   go_wp2;go_round
   case rel=>
    have e1:=HP.out;exact⟨k+1,ae,by go_num,by rw[HX.out];go_num⟩
   case measure=>simp[intOf];omega
  .obtain rfl:k=N:= ae 
   have hn:=HNN.out;clear HNN HLO;unfold sw at hn;have yx:IntKind.u64.wrap (((q-k:Nat):Int)*(w0:Int))=(((q-k)*w0:Nat):Int):=by rw[<-dH];exact px _ ae 
   generalize rest+k*v=y at *
   generalize (q-k)*w0=z at *
   obtain⟨p,hp⟩:∃ p,p=q-k:=⟨_,rfl⟩
   rw[<-hp]at yx ⊢;have HP:=Lib.hid hp;clear hp;by_cases g1:y<4294967296
   .have Bn:=Dz y g1
    have s5:=Fu y third g1 ht;rw[show((y*4294967296:Nat):Int)=(y:Int)*4294967296 by omega]at s5 Bn;have d1:decide ((y:Int)<4294967296)=true:=aS ae;have d2:decide ((y:Int)*4294967296+(third:Int)<(z:Int))=false:=aT ae;clear hn;go_wp2;go_ret;exact⟨oj (by rw[<-HP.out]),rfl⟩
   .have d1:decide ((y:Int)<4294967296)=false:=aT ae 
    clear hn yx;go_wp2;go_ret;exact⟨oj (by rw[<-HP.out]),rfl⟩
theorem ad4(iu next third v w0:Nat)(hv:2147483648<=v)(rJ:v<4294967296)(hn:next<4294967296)(ht:third<4294967296)(hw:w0<4294967296)(htv:iu<=v):
 ∃ g,g<=4294967295/\g<=((iu*4294967296+next)*4294967296+third)/(v*4294967296+w0)/\(g=4294967295\/((iu*4294967296+next)*4294967296+third)/(v*4294967296+w0)<=g) /\
  ∀ w,Calls Tryz.prog 340 #[.int .u32 iu,.int .u32 next,.int .u32 third,.int .u32 v,.int .u32 w0] w fun e w'=>e = .returned (.int .u64 (g:Int))/\∃ m,w'=w.drewN m:=by
 by_cases k1:v<=iu
 .obtain ⟨N,hN3,mE,sW,rV,g1,g2⟩:=QQ (X:=iu*4294967296+next) (q:=4294967295) (rest:=(iu-v)*4294967296+next+v) (third:=third) (v:=v) (w:=w0) ae (aU _) hv hw
  refine⟨4294967295-N,ae,g1,g2.elim (fun h=>.inl (by rw[h])) .inr,fun w=>?_⟩;clear g1 g2;have H:=fun w=>QR 4294967295 ((iu-v)*4294967296+next+v) third v w0 N w ae ae ht rJ hw mE sW rV
  clear sW rV;obtain rfl:v=iu:= ae ;have tS:(v-v)*4294967296+next+v=next+v:= ae 
  rw[tS,er]at H;have HD:=Lib.hid H;clear H;have d1:decide ((v:Int)<=(v:Int))=true:=aS ae;go_enter Tryz.func340,Tryz.ntmps340;go_wp2_with fail;refine(HD.out _).mono ?_;rintro e w' ⟨rfl,rfl⟩;go_wp2;go_ret;exact⟨rfl,0,rfl⟩
 .have d1:=bU (iu*4294967296+next) v
  have d2:=bg (iu*4294967296+next) (show 0<v by omega);have d3:(iu*4294967296+next)/v<4294967296:=by rw[bR ae];omega
  obtain⟨N,hN3,mE,sW,rV,g1,g2⟩:=QQ (X:=iu*4294967296+next) (q:=(iu*4294967296+next)/v) (rest:=(iu*4294967296+next)%v) (third:=third) (v:=v) (w:=w0) (by rw[a7];exact d1) ae hv hw;have g3:=abq (x:=iu*4294967296+next) (v:=v) (w:=w0) (third:=third) ae ht;refine⟨(iu*4294967296+next)/v-N,ae,g1,.inr ?_,fun w=>?_⟩
  .rcases g2 with rfl|g2
   .exact g3
   .exact g2
  have H:=fun w=>QR ((iu*4294967296+next)/v) ((iu*4294967296+next)%v) third v w0 N w (Nat.le_of_lt_succ d3) (fk d2 ae) ht rJ hw mE sW rV
  rw[Int.natCast_ediv,Int.natCast_emod]at H;have HD:=Lib.hid H;clear H g1 g2 g3 mE sW rV d1 d2 d3;have d1:decide ((v:Int)<=(iu:Int))=false:=aT ae;have Bn:=Dz iu ae;have s5:=Fu iu next ae hn
  rw[show((iu*4294967296:Nat):Int)=(iu:Int)*4294967296 by omega]at s5 Bn;have mj:((iu*4294967296+next:Nat):Int)<18446744073709551616:= ae ;rw[show((iu*4294967296+next:Nat):Int)=(iu:Int)*4294967296+(next:Int)by omega]at s5 mj;have rI:((v:Int)==0)=false:= av ;go_enter Tryz.func340,Tryz.ntmps340;go_wp2;go_quiet (exact Calls.quiet_of_same ((HD.out _).mono fun _ _ ⟨h1,h2⟩=>⟨h1,h2.symm⟩));go_wp2;go_ret;exact⟨rfl,_,rfl⟩
theorem Fp.iy.alo{w0 w w':World}{g n:Nat}(h:iy w0 w)(k:sr g (w.drewN n) w')(hg:w0.heap.size<=g):iy w0 w':=
 (below_drewN h n).trans (k.below.mono hg)
theorem Fp.iy.only{w0 w w':World}{g:Nat}(h:iy w0 w)(k:sr g w w')(hg:w0.heap.size<=g):iy w0 w':=
 Below.trans h (k.below.mono hg)
theorem Sl.RB{w:World}{g cap:Nat}{L:List Nat}(h:Sl w (some ⟨g,0,none⟩) cap L){b:Nat}(hb:g≠b)(i:Nat)(v:Value):Sl (w.setCell ⟨b,i,none⟩ v) (some ⟨g,0,none⟩) cap L:=
 h.pL (fun b' o _ e=>by cases e;exact hb) (sr.FV (sr.refl b w) i v)
theorem Sl.drewN{w:World}{A:Option Addr}{c:Nat}{L:List Nat}(h:Sl w A c L)(n:Nat):Sl (w.drewN n) A c L:=h.below (below_drewN (Below.refl _ _) n)
theorem ahQ{P:Program}{f:FuncId}{args:Array Value}{w:World}{n:Nat}{v:Value}
 (h:Calls P f args (w.drewN n) fun e w'=>e = .returned v/\∃ m,w'=(w.drewN n).drewN m):Calls P f args (w.drewN n) fun e w''=>e = .returned v/\∃ m,w''=w.drewN m:=
 h.mono fun _ _ ⟨he,m,hm⟩=>⟨he,n+m,by rw[hm,World.drewN_drewN]⟩
set_option maxRecDepth 100000 in
set_option maxHeartbeats 8000000 in
theorem abB(A B:Option Addr)(c d:Nat)(L M:List Nat)(w:World)(lx ly s:Nat)(xd:lx=(ij L).length)(Il:ly=(ij M).length)(uZ:s=32-ia ((ij M).getD (ly-1) 0))(hs:Sl w A c L)(hr:Sl w B d M)(kp:Tb w)(h1:L.length<=100000)(h2:M.length<=100000)(pO:val M<=val L)(hlen:2<=ly):
 Calls Tryz.prog 319 #[.slice A L.length c,.slice B M.length d] w (YK w (iJ (val L/val M) (lx+1-ly)) (qn (s%32) ((gU (val L%val M*2^s)).drop (s/32)))):=by
 have H1:=ud A c L w hs;have H2:=ud B d M w hr;have Sa:=oG L;unfold lQ at Sa;have uQ:=oG M;unfold lQ at uQ;have eL:=oo L;have eM:=oo M;rw[<-eL,<-eM]at pO ⊢;have ky:=hs.tk;have nu:=hr.tk;have Lv:=yX M;have So:ij (ij L)=ij L:=yX L;have Su:ij (ij M)=ij M:=yX M;have H3:=Ff A B c d (ij L) (ij M) w ky nu ae ae;generalize ij L=X at *
 generalize ij M=Y at *
 have oD:0<=jY (val X) (val Y):=by unfold jY;split<;>(try split)<;>omega
 generalize jY (val X) (val Y)=cm at *
 have Ss:Y.length<=X.length:=by
  apply bE;intro h;have:=JT ky.ok Lv (ae:X.length<Y.length);omega
 clear eL eM hs hr pO;rw[<-xd]at Ss H1 H3 Sa;rw[<-Il]at Ss H2 H3 uQ;have mj:Y.getD (ly-1) 0≠0:=by
  have:=(AJ Y).1 Lv ae;have e:Y.getD (ly-1) 0=Y[Y.length-1]'(ae):=by
   rw[aW,show ly-1=Y.length-1 by omega];simp[show Y.length-1<Y.length by omega]
  rw[e];exact this
 have HN:=ahc nu.ok (l:=ly-1) ae rfl mj uZ;rw[show ly-1+1=ly by omega]at HN;obtain⟨x,hx⟩:∃ x,x=Y.getD (ly-1) 0:=⟨_,rfl⟩
 have my:x<4294967296:=by rw[hx];exact nu.ok.getD _
 have H4:=Lib.hid (fun w=>agr x my w);rw[<-hx]at uZ;rw[<-uZ]at H4;obtain⟨ab,ao,rfl,hab,c1⟩:=nu.ln (i:=ly-1) ae;have IE:Y[ly-1]'(ae)=x:=by rw[hx];simp[aW,show ly-1<Y.length by omega]
 rw[IE]at c1;have aeG:s<32:=HN.1;have HNh:=Lib.hid HN;have H5:=fun w (h:Sl w A c X)=>U7 A c X s w h ae ae 
 have H6:=fun w (h:Sl w (some ⟨ab,ao,none⟩) d Y)=>U7 (some ⟨ab,ao,none⟩) d Y s w h ae ae 
 rw[So,<-xd,show s/32+lx+1=lx+1 by omega]at H5;rw[Su,<-Il,show s/32+ly+1=ly+1 by omega]at H6;have H5h:=Lib.hid H5;have H6h:=Lib.hid H6;have HX:=Lib.hid xd;have HY:=Lib.hid Il;have HS2:=Lib.hid ky;have HR2:=Lib.hid nu;have H1h:=Lib.hid H1;have H2h:=Lib.hid H2;have H3h:=Lib.hid H3;clear H1 H2 H3 H5 H6 So Su HN xd Il hx IE uZ mj ky nu Lv;have yx:(ly:Int)-1=((ly-1:Nat):Int):= ae ;have d0:decide (cm<0)=false:=aT ae;have d2:decide ((lx:Int)+1<=(lx:Int))=false:=aT ae;have oR:=C8 (lx+1-ly) ae;rw[show((lx+1-ly:Nat):Int)=(lx:Int)+1-(ly:Int)by omega]at oR;have d1:((ly:Int)==1)=false:= av 
 go_enter Tryz.func319,Tryz.ntmps319;go_wp2_with fail;refine H1h.out.mono ?_;rintro e w' ⟨rfl,rfl⟩;go_wp2_with fail;refine H2h.out.mono ?_;rintro e w' ⟨rfl,rfl⟩;go_wp2_with fail;refine H3h.out.mono ?_;rintro e w1 ⟨rfl,iZ⟩;have c2:=c1;rw[<-(iZ.cell (p:=⟨ab,ao+(ly-1),none⟩) hab)]at c2;go_wp2_with fail;refine(H4.out _).mono ?_;rintro e w2 ⟨rfl,rfl⟩;go_wp2_with fail;refine(H5h.out _ (HS2.out.below iZ)).mono ?_;rintro e w2 ⟨T,v1,he,CC,A8,k0,mc⟩;obtain⟨g,cap,R,xg,SN,SO,Sg,CG,aem⟩:=k0.rx (by intro h;rw[h]at A8;simp at A8);have Sk:=Lib.hid k0.ok;rw[A8]at xg CG;subst xg;subst he;clear k0;have HTv:=Lib.hid CC;have HTl:=Lib.hid A8;clear CC A8;go_wp2_with fail;refine(H6h.out _ ((HR2.out.below iZ).below mc)).mono ?_;rintro e w3 ⟨S,v2,he,Sj,A7,k0,pn⟩;have Hy:=Sg.qb (pn.block g SO);obtain⟨g',cap',R',rJ,aer,amu,_,amt,_⟩:=k0.rx (by intro h;rw[h]at A7;simp at A7);obtain⟨_,_,e2,Ly⟩:=k0.sl;rw[rJ]at e2;cases e2;have Ib:g'≠g:= ae ;have H7:=ud (some ⟨g',0,none⟩) cap' S w3 Ly;have hV:ij S=gU (val Y*2^s):=by rw[qo k0.ok,Sj]
 have xV:=Ly.tk;rw[hV]at H7 xV;rw[HNh.out.2.1,A7]at H7;rw[A7]at rJ;have aej:iy w w3:=(iZ.trans mc).trans pn;subst rJ;subst he;have H7h:=Lib.hid H7;clear k0 Ly hV Sj A7 H7 Sg mc pn;go_wp2_with fail;refine H7h.out.mono ?_;rintro e w4 ⟨rfl,rfl⟩;go_wp2;go_loop [9] (fun u=>u = .slice (some ⟨g,0,none⟩) (lx+1) cap) (fun _=>0)
 case atStart=>rfl
 case round=>
  subst hrel;go_wp2;have uR:=Rw.xm w3 (lx+1-ly);have Iq:=HNh.out.2.1;have sW:=HNh.out.2.2.1;have rV:=HNh.out.2.2.2.1;have Sm:=kB (val Y*2^s);have LF:=jC (val Y*2^s);rw[<-LF]at rV;generalize gU (val Y*2^s)=V at *
  have wS:=rS.start (A:=val X) (s:=s) (V:=V) (O:=T) Sk.out HTv.out (la:=lx) (by rw[HX.out];exact lY HS2.out.ok) HTl.out aeG ae ae (by rw[Iq];exact rV);have Si:=xV.alloc (.cells (nX (List.replicate (lx+1-ly) 0)).toArray 79);have Sh:Rx (w3.alloc (.cells (nX (List.replicate (lx+1-ly) 0)).toArray 79)) g T R:=Hy.qb ((iy.alloc w3 _).block g (by have:=Hy.lt;omega));rw[Iq]at wS;have HD0:=Lib.hid wS;have HR0:=Lib.hid uR;have HRx:=Lib.hid Sh;have HSV:=Lib.hid Si;have HE0:=Lib.hid (aej.trans (iy.alloc w3 (.cells (nX (List.replicate (lx+1-ly) 0)).toArray 79)));have HnV:=Lib.hid Iq;have HVok:=Lib.hid Sm;have HVv:=Lib.hid LF;have HN1:=Lib.hid sW;have hgq:g<w3.heap.size:=Hy.lt;have SR:w.heap.size<=g:=aX iZ.size SN;clear wS uR Sh Si xV Hy Iq Sm LF sW rV HTv HTl Sk H1h H2h H3h H4 H5h H6h H7h c1 c2 d2 oR iZ SN aer SO HNh HS2 HR2;go_loopw [13] (fun j wr=>∃ (k:Nat) (O Q:List Nat),k<=lx+1-ly/\j = .int .i64 ((k:Int)-1)/\rS (val X*2^s) V k (lx+1) O Q/\Rx wr g O R/\Rw wr w3.heap.size Q/\Sl wr (some ⟨g',0,none⟩) cap' V/\iy w wr) (fun j _=>(intOf j+1).toNat)
  case atStart=>
   exact⟨lx+1-ly,T,_,aU _,by go_num,HD0.out,HRx.out,HR0.out,HSV.out,HE0.out⟩
  case round=>
   clear HD0 HRx HR0 HSV HE0;obtain⟨k,O,Q,hk,rfl,hD,CB,Lx,xV,SB⟩:=hrel;have HE:=Lib.hid SB;have HSV:=Lib.hid xV;have HRQ:=Lib.hid Lx;have HRO:=Lib.hid CB;have HD:=Lib.hid hD;clear hD SB;rcases k with _|t
   .have hO:=HD.out.Uc
    have Tf:=HRO.out.sl HD.out.yL (cap:=cap) ae aem ly;have HZ:=Nb (some ⟨g,0,none⟩) cap (O.take ly) s wr Tf aD ae;have e1:(O.take ly).length=ly:=by rw[bZ];omega
    rw[e1]at HZ;have HZh:=Lib.hid HZ;have HQs:=Lib.hid (HRQ.out.sl HD.out.BI (by rw[HD.out.EW];omega));have vP:0<val V:=by
     have:=HD.out.lt;rcases dV (val V)with h|h
     .rw [h,ch]at this;omega
     .exact h
    have Sr:0<val Y:=by
     rw[HVv.out]at vP;exact Nat.pos_of_mul_pos_right vP
    have LV:=aby (a:=val X) (b:=val Y) (s:=s) (q:=val Q) (r:=val O) Sr (by rw[<-HVv.out];exact HD.out.eq) (by rw[<-HVv.out];have:=HD.out.lt;rw[bN,bO]at this;exact this);have zP:val (O.take ly)=val O:=by
     rw[alR HD.out.yL,bu];have:=HD.out.lt;rw[bN,bO]at this;refine fk this ?_;have h:=lY HVok.out;rw[HnV.out]at h;exact h
    have Sb:ij (O.take ly)=gU (val X%val Y*2^s):=by rw[qo (HD.out.yL.take ly),zP,LV.2]
    rw[Sb]at HZh;have Hv:=HD.out.EW;rw[HnV.out]at Hv;have Se:iJ (val X/val Y) (lx+1-ly)=Q:=Co HD.out.BI Hv LV.1;have HQd:=Lib.hid Se;generalize qn (s%32) ((gU (val X%val Y*2^s)).drop (s/32))=Z at *
    have HQl:=Lib.hid Hv;clear LV zP Sb Se Tf HZ e1 Hv hO vP Sr xV CB Lx;go_wp2_with fail;refine HZh.out.mono ?_;rintro e w5 ⟨AZ,cZ,rfl,hZs,Sv⟩;go_wp2;go_ret2;have hq:=HQs.out.below Sv;rw[HQl.out]at hq;exact⟨_,_,_,_,by rw[mC];rfl,by rw[HQd.out];exact hq,hZs,HE.out.trans Sv⟩
   .have hO:=HD.out.Uc
    have c4:=CB.cell (i:=t+ly) ae;have c5:=CB.cell (i:=t+ly-1) ae;have c6:=CB.cell (i:=t+ly-2) ae;obtain⟨_,_,e1,_,c7⟩:=xV.ln (i:=ly-1) (by rw[HnV.out];omega);obtain⟨_,_,e2,_,c8⟩:=xV.ln (i:=ly-2) (by rw[HnV.out];omega);cases e1;cases e2;rw[bX]at c7 c8;have v7:V[ly-1]'(by rw[HnV.out];omega)=V.getD (ly-1) 0:=by simp[aW,HnV.out,show ly-1<ly by omega]
    have v8:V[ly-2]'(by rw[HnV.out];omega)=V.getD (ly-2) 0:=by simp[aW,HnV.out,show ly-2<ly by omega]
    rw[v7]at c7;rw[v8]at c8;clear v7 v8;have kV:=HD.out.yL;have o4:=kV.getD (t+ly);have o5:=kV.getD (t+ly-1);have o6:=kV.getD (t+ly-2);have o7:=HVok.out.getD (ly-1);have o8:=HVok.out.getD (ly-2);have hG:=HD.out.ad3 HVok.out (by rw[HnV.out];omega) (by rw[HnV.out];exact HN1.out);rw[HnV.out]at hG;obtain⟨gd,g1,g2,g3,g4⟩:=ad4 (O.getD (t+ly) 0) (O.getD (t+ly-1) 0) (O.getD (t+ly-2) 0) (V.getD (ly-1) 0) (V.getD (ly-2) 0) HN1.out o7 o5 o6 o8 hG.1;have HGq:=Lib.hid (hG.2 gd g1 g2 g3);have HG:=Lib.hid g4;clear hG g2 g3 g4 kV xV CB Lx;generalize O.getD (t+ly) 0=x4 at *
    generalize O.getD (t+ly-1) 0=x5 at *
    generalize O.getD (t+ly-2) 0=x6 at *
    have HV1:=Lib.hid (rfl:V.getD (ly-1) 0=V.getD (ly-1) 0);generalize hx7:V.getD (ly-1) 0=x7 at *
    generalize V.getD (ly-2) 0=x8 at *
    clear hx7 HV1;have i1:(((t+1:Nat):Int)-1)=(t:Int):= ae ;have i2:((t:Int)+(ly:Int)).toNat=t+ly:= ae ;have i3:((t:Int)+(ly:Int)-1).toNat=t+ly-1:= ae ;have i4:((t:Int)+(ly:Int)-2).toNat=t+ly-2:= ae ;have i6:((ly:Int)-2)=((ly-2:Nat):Int):= ae ;have p1:IntKind.i64.wrap ((t:Int)+(ly:Int))=(t:Int)+(ly:Int):=i64_in _ ae ae;have p2:IntKind.i64.wrap ((t:Int)+(ly:Int)-1)=(t:Int)+(ly:Int)-1:=i64_in _ ae ae;have p3:IntKind.i64.wrap ((t:Int)+(ly:Int)-2)=(t:Int)+(ly:Int)-2:=i64_in _ ae ae;have p4:IntKind.i64.wrap ((ly-1:Nat):Int)=((ly-1:Nat):Int):=i64_in _ ae ae;have p5:IntKind.i64.wrap ((ly-2:Nat):Int)=((ly-2:Nat):Int):=i64_in _ ae ae;have j6:((ly-1:Nat):Int)<(ly:Int):= ae ;have j7:((ly-2:Nat):Int)<(ly:Int):= ae ;have j0:0<=(t:Int)+(ly:Int):= ae ;have j1:0<=(t:Int)+(ly:Int)-1:= ae ;have j2:0<=(t:Int)+(ly:Int)-2:= ae ;have j3:(t:Int)+(ly:Int)<(lx:Int)+1:= ae ;have j4:(t:Int)+(ly:Int)-1<(lx:Int)+1:= ae ;have j5:(t:Int)+(ly:Int)-2<(lx:Int)+1:= ae 
    rw[i1];clear i1;go_wp2;go_quiet (exact ahQ (HG.out _));go_wp2_with fail;have HTk:=alb g t (cap-t) cap' gd O V R (some ⟨g',0,none⟩) (wr.drewN nq) (HRO.out.qb rfl) (HSV.out.drewN nq) (fun b' o _ e=>by cases e;exact Ib) HD.out.yL (by rw[HnV.out];omega) g1 ae;rw[HnV.out,show ly+1=t+ly+1-t by omega]at HTk;refine HTk.mono ?_;rintro e w5 ⟨O',δ,rfl,Sf,pF,CO,hδ,kW,IA,CQ⟩;have HRO':=Lib.hid Sf;have HON:=Lib.hid CQ;have HSV5:=Lib.hid ((HSV.out.drewN nq).pL (fun b' o _ e=>by cases e;exact Ib) CQ);have HRQ5:=Lib.hid (show Rw w5 w3.heap.size Q from(CQ.pL _ ae).trans HRQ.out);have HE5:=Lib.hid (show iy w w5 from Fp.iy.alo HE.out CQ SR);have hPt:=pw t;have Sn:0<val V:=by
     have:=HD.out.lt;rcases dV (val V)with h|h
     .rw [h,ch]at this;omega
     .exact h
    have wg:IntKind.u32.wrap (gd:Int)=(gd:Int):=by rw[IntKind.wrap_u32];omega
    have htm:(t:Int)<(lx:Int)+1-(ly:Int):= ae ;have Tl:t<Q.length:=by rw[HD.out.EW,HnV.out];omega
    have Lw:=bd Tl;have cq:=HRQ5.out.cell Lw;have fq:=HRQ5.out.frozen t;generalize Q[t]=q0 at *
    have HQG:=Lib.hid Lw;clear Lw Tl c4 c5 c6 c7 c8 HRO HRQ HSV HE HTk Sf CQ;rcases dG δ 1 with TF|hδ1
    .obtain rfl:δ=0:= ae 
     have R8:=QT hPt Sn (by rw[kW,cr,bt]) HGq.out.1;have HDS:=Lib.hid (HD.out.step (x:=gd) (by rw[HnV.out];omega) (by rw[pF,hO]) CO ae (by rw[kW,cr,bt]) R8.2);clear R8 kW IA CO pF HD HGq;have HRQ6:=Lib.hid (fun x:Nat=>HRQ5.out.set t x);have HRO6:=Lib.hid (fun v:Value=>HRO'.out.qb (w':=w5.setCell ⟨w3.heap.size,t,none⟩ v) (by simp only[World.setCell,eG];rw[aQ ae]));have HSV6:=Lib.hid (fun v:Value=>HSV5.out.RB (b:=w3.heap.size) ae t v);have HE6:=Lib.hid (fun v:Value=>HE5.out.setCell (p:=⟨w3.heap.size,t,none⟩) (by show w.heap.size<=w3.heap.size;omega) v);go_wp2;go_roundw
     case rel=>exact⟨t,O',Q.set t gd,ae,by go_num,HDS.out,HRO6.out _,HRQ6.out _,HSV6.out _,HE6.out _⟩
     case measure=>simp[intOf]
    .obtain rfl:δ=1:= ae 
     have s6:=HD.out.Vr (x:=gd) HVok.out CO (by rw[HnV.out];exact kW) (by rw[HnV.out];exact IA);have Be:=s6.2;have HB:=Lib.hid (fun(κ:Nat) (O2:List Nat)=>HD.out.ZK (x:=gd) (κ:=κ) (O2:=O2) HVok.out (by rw[HnV.out];omega) CO (by rw[HnV.out];exact kW) (by rw[HnV.out];exact IA) g1 HGq.out.2 Sn);have HP0:=Lib.hid (wH.start CO t V);have SZ:O'.length=lx+1:=by rw[pF,hO]
     have HL':=Lib.hid SZ;have hxm:IntKind.u64.wrap ((gd:Int)-1)=((gd-1:Nat):Int):=by rw[IntKind.wrap_u64];omega
     have wg1:IntKind.u32.wrap ((gd-1:Nat):Int)=((gd-1:Nat):Int):=by rw[IntKind.wrap_u32];omega
     clear s6 kW IA CO pF SZ HD HGq wg cq fq;go_wp2;go_loopw [15,125] (fun cy i wr2=>∃ (k c':Nat) (O2:List Nat),k<=ly/\i = .int .i64 k/\cy = .int .u32 c'/\wH O' t V k O2 c'/\Rx wr2 g O2 R/\sr g w5 wr2) (fun _ i _=>ly-(intOf i).toNat)
     case atStart=>exact⟨0,0,O',bL _,rfl,rfl,HP0.out,HRO'.out,sr.refl _ _⟩
     case round=>
      clear HP0 HRO';obtain⟨k,c',O2,sD,rfl,rfl,hP,zG,EA⟩:=hrel;have HP:=Lib.hid hP;have Eo:=hP.Kx;have ns:O2.length=lx+1:=by rw[hP.len];exact HL'.out
      have HL2:=Lib.hid ns;clear hP;by_cases iD:k<ly
      .have yi:k<V.length:=by rw[HnV.out];exact iD
       obtain⟨_,_,e1,_,c1⟩:=(HSV5.out.pL (fun b' o _ e=>by cases e;exact Ib) EA).ln yi;cases e1;rw[bX]at c1;have v7:V[k]=V.getD k 0:=by simp[aW,yi]
       rw[v7]at c1;have pP:t+k<O2.length:= ae ;have c2:=zG.cell pP;have c3:=zG.frozen (t+k);have pq:V.getD k 0<4294967296:=HVok.out.getD k;have EK:O2.getD (t+k) 0<4294967296:=HP.out.ok.getD _;have HST:=Lib.hid (HP.out.step HVok.out yi (by rw[HL'.out,HnV.out];omega));have HRS:=Lib.hid (fun x:Nat=>zG.set pP x);have HOS:=Lib.hid (fun(v:Value)=>EA.FV (t+k) v);have HA:=Lib.hid (fun w=>DP (O2.getD (t+k) 0) (V.getD k 0) c' w EK pq Eo);clear zG EA HP v7 yi pP ns HL2;generalize O2.getD (t+k) 0=u at *
       generalize V.getD k 0=y at *
       have wZ:((t:Int)+(k:Int)).toNat=t+k:= ae ;have vV:0<=(t:Int)+(k:Int):= ae ;have SU:(t:Int)+(k:Int)<(lx:Int)+1:= ae ;go_wp2_with fail;refine(HA.out _).mono ?_;rintro e w6 ⟨rfl,rfl⟩;go_wp2;go_roundw
       case rel=>
        exact⟨k+1,(u+y+c')/4294967296,O2.set (t+k) ((u+y+c')%4294967296),ae,by go_num,rfl,HST.out,HRS.out _,HOS.out _⟩
       case measure=>simp[intOf];omega
      .obtain rfl:k=ly:= ae 
       have Hu:=(show wH O' t V V.length O2 c' by rw[HnV.out];exact HP.out).MR (by rw[HL'.out,HnV.out];omega);rw[HnV.out]at Hu;obtain⟨q1,q2,⟨κ,q3,q4⟩,q5⟩:=Hu;have pP:t+k<O2.length:= ae ;have c2:=zG.cell pP;have c3:=zG.frozen (t+k);have EK:O2.getD (t+k) 0<4294967296:=HP.out.ok.getD _;have HDS:=Lib.hid (HB.out κ _ (by rw[q1];exact HL'.out) q2 q3 (by rw[HnV.out];exact q4) (by rw[HnV.out];exact q5));have HRS:=Lib.hid (fun x:Nat=>zG.set pP x);have HOS:=Lib.hid (fun(v:Value)=>EA.FV (t+k) v);have Hw:∀ v:Value,Rw (wr.setCell ⟨g,t+k,none⟩ v) w3.heap.size Q:=fun v=>((HOS.out v).pL _ ae).trans HRQ5.out
       have hcq:∀ v:Value,(wr.setCell ⟨g,t+k,none⟩ v).cell? ⟨w3.heap.size,t,none⟩=some (.int .u32 (q0:Int)):=fun v=>(Hw v).cell HQG.out
       have hfq:∀ v:Value,(wr.setCell ⟨g,t+k,none⟩ v).frozen? ⟨w3.heap.size,t,none⟩=false:=fun v=>(Hw v).frozen t
       have HRQ8:=Lib.hid (fun(v:Value) (x:Nat)=>(Hw v).set t x);have HRO8:=Lib.hid (fun(x:Nat) (v:Value)=>(HRS.out x).qb (w':=(wr.setCell ⟨g,t+k,none⟩ (.int .u32 (x:Int))).setCell ⟨w3.heap.size,t,none⟩ v) (by simp only[World.setCell,eG];rw[aQ ae]));have HSV8:=Lib.hid (fun(v v2:Value)=>(HSV5.out.pL (fun b' o _ e=>by cases e;exact Ib) (HOS.out v)).RB (b:=w3.heap.size) ae t v2);have HE8:=Lib.hid (fun(v v2:Value)=>(Fp.iy.only HE5.out (HOS.out v) SR).setCell (p:=⟨w3.heap.size,t,none⟩) (by show w.heap.size<=w3.heap.size;omega) v2);clear Hw HRS HOS zG EA HP q1 q2 q3 q4 q5 pP ns HL2;generalize O2.getD (t+k) 0=u at *
       have wZ:((t:Int)+(k:Int)).toNat=t+k:= ae ;have vV:0<=(t:Int)+(k:Int):= ae ;have SU:(t:Int)+(k:Int)<(lx:Int)+1:= ae ;have hi4:IntKind.u32.wrap ((u:Int)+(c':Int))=(((u+c')%4294967296:Nat):Int):=by rw[IntKind.wrap_u32];omega
       generalize (u+c')%4294967296=uu at *
       go_wp2;go_roundw
       case rel=>exact⟨t,O2.set (t+k) uu,Q.set t (gd-1),ae,by go_num,HDS.out,HRO8.out _ _,HRQ8.out _ _,HSV8.out _ _,HE8.out _ _⟩
       case measure=>simp[intOf]
open Go.RowKit Fp Pu
theorem akz:E.le (.v (.slice none 0 0)) (gX []):=fun bs br w v h=>by
 obtain rfl:=iG.kJ h;exact .sl false 0 1 _ none 0 (fun _ _=>undef) (aU _) ag (fun _=>rfl) (fun i j hi=>absurd hi (bj i)) (fun i j hi=>absurd hi (bj i)) (fun i j hi=>absurd hi (bj i)) (fun i j hi=>absurd hi (bj i))
theorem akA{x:Nat}:E.le (.sl false 1 1 fun i_ j_=>[(.v (.int .u32 (x:Int)))].getD (i_*1+j_) (.v (.bool false))) (gX [x]):=.sl fun i j hi hj=>by
 obtain rfl:i=0:= ae ;obtain rfl:j=0:= ae ;exact⟨.refl _,rfl⟩
theorem Qt(L:List Nat)(hk:iC L):gV 128 [gX L] (gX L):=Fw hk Tryz.call128 (fun A c w h _=>KE A c L w h) fun A c B w e w' h hB ⟨h1,h2⟩=>by
 subst h2;exact⟨_,h1,Below.refl _ _,xy hB (Below.refl _ _) ⟨aU _,h.len,h.ok,fun hn=>by have:=h.wk hn;have:=h.cap;omega,h.cell⟩⟩
theorem Qu(L:List Nat)(hk:iC L)(hl:L.length<=1000000):gV 129 [gX L] (gX L):=Fw hk Tryz.call129 (fun A c w h _=>KF A c L w h ae) fun A c B w e w' h hB r=>rl B w e w' hB r
theorem agI(L M:List Nat)(hL:iC L)(hM:iC M)(h1:L.length<=100000)(h2:M.length<=100000)(hc:jY (val (ij L)) (val (ij M))<0):gV 319 [(gX L),(gX M)] (.iw [gX [],gX (ij L)]):=by
 have ta:=oG L;have tb:=oG M;unfold lQ at ta tb;exact tr true Tryz.call319 Tryz.func319 (chain [.c (tg _ af:gV 167 [(gX L)] _),.c (tg _ af:gV 167 [(gX M)] _),.c (M6 _ _ (iC.ij af) (iC.ij af) ae ae:gV 131 [(gX (ij L)),(gX (ij M))] _),tB 25 (aS hc),.c (Qu _ (iC.ij af) ae:gV 129 [(gX (ij L))] _)]<|rR (.iw [gX [],gX (ij L)]) (.iw (.cons akz (.cons (.refl _) .nil)):E.le (.iw [(.v (.slice none 0 0)),(gX (ij L))]) (.iw [gX [],gX (ij L)]))) ah 
theorem agJ(L M:List Nat)(hL:iC L)(hM:iC M)(h1:L.length<=100000)(h2:M.length<=100000)(hc:¬jY (val (ij L)) (val (ij M))<0)(hl:(ij M).length=1)(uS:0<(ij M).getD 0 0)(sY:(ij M).getD 0 0<4294967296):gV 319 [(gX L),(gX M)] (.iw [gX (iJ (val (ij L)/(ij M).getD 0 0) (ij L).length),gX [val (ij L)%(ij M).getD 0 0]]):=by
 have ta:=oG L;have tb:=oG M;unfold lQ at ta tb;exact tr true Tryz.call319 Tryz.func319 (chain [.c (tg _ af:gV 167 [(gX L)] _),.c (tg _ af:gV 167 [(gX M)] _),.c (M6 _ _ (iC.ij af) (iC.ij af) ae ae:gV 131 [(gX (ij L)),(gX (ij M))] _),tB 25 (aT hc),tB 30 (by rw[hl];rfl:(((ij M).length:Int)==1)=true),iX (0) ((ij M).length) ae,.c (agP (ij L) ((ij M).getD 0 0) (iC.ij af) ae uS sY)]<|rR (.iw [gX (iJ (val (ij L)/(ij M).getD 0 0) (ij L).length),gX [val (ij L)%(ij M).getD 0 0]]) (.iw (.cons (.refl _) (.cons akA .nil)):E.le (.iw [(gX (iJ (val (ij L)/((ij M).getD 0 0)) (ij L).length)),(.sl false 1 1 fun i_ j_=>[(.v (.int .u32 (((val (ij L)%((ij M).getD 0 0)):Nat):Int)))].getD (i_*1+j_) (.v (.bool false)))]) (.iw [gX (iJ (val (ij L)/(ij M).getD 0 0) (ij L).length),gX [val (ij L)%(ij M).getD 0 0]]))) ah 
theorem M7(L M:List Nat)(hL:iC L)(hM:iC M)(h1:L.length<=100000)(h2:M.length<=100000)(h0:val M≠0):∃ T S:List Nat,gV 319 [gX L,gX M] (.iw [gX T,gX S])/\val T=val L/val M/\val S=val L%val M/\iC T/\iC S/\T.length<=L.length/\S.length<=L.length+1:=by
 have ta:=oG L;have tb:=oG M;unfold lQ at ta tb;have e1:=oo L;have e2:=oo M;by_cases hc:jY (val (ij L)) (val (ij M))<0
 .refine ⟨[],ij L,agI L M hL hM h1 h2 hc,?_,?_,iC.nil,hL.ij,bL _,ae⟩
  .rw [e1,e2]at hc
   have:val L<val M:=by unfold jY at hc;split at hc<;>(try split at hc)<;>omega
   rw[bT this];rfl
  .rw [e1,e2]at hc
   have:val L<val M:=by unfold jY at hc;split at hc<;>(try split at hc)<;>omega
   rw[bu this,e1]
 .have pO:val M<=val L:=by rw[e1,e2]at hc;unfold jY at hc;split at hc<;>(try split at hc)<;>omega
  have ks:ij M≠[]:=by intro h;rw[h]at e2;exact h0 e2.symm
  have hlen:(ij M).length≠0:=by simpa using ks
  by_cases hl:(ij M).length=1
  .obtain ⟨x,hx⟩:=List.length_eq_one_iff.1 hl
   have kV:=hM.ij;rw[hx]at kV;have Tz:x=val M:=by rw[<-e2,hx];simp[val]
   have hg:(ij M).getD 0 0=x:=by rw[hx];rfl
   have:=agJ L M hL hM h1 h2 hc hl (by rw[hg];omega) (by rw[hg];exact kV.head);rw[hg]at this;refine⟨_,_,this,?_,?_,rU _ _,iC.cons (fk (bg _ ae) kV.head) iC.nil,by rw[mC];exact ta,aj⟩
   .rw [ux,bu,e1,Tz]
    exact bQ (bw _ _) (lY hL.ij)
   .simp [val,e1,Tz]
  .refine ⟨_,_,Ar hL hM Tryz.call319 (fun A c B d w h k hT=>abB A B c d L M w _ _ _ rfl rfl rfl h k hT h1 h2 pO ae) (fun B w e w' hB ⟨A1,c1,B1,d1,q1,q2,q3,q4⟩=>⟨_,q1,q4,kr.iw (.cons (xy hB q4 q2) (.cons (xy hB q4 q3) (.nil _ _ _)))⟩),?_,?_,rU _ _,Am _ _,?_,?_⟩
   .rw [ux,bu]
    rw[bR ae];have g1:=lY hL.ij;rw[e1]at g1;refine bD g1 ?_;obtain⟨l,pF⟩:∃ l,(ij M).length=l+1:=⟨(ij M).length-1,ae⟩
    have g2:4294967296^l<=val M:=by
     apply bE;intro q;have q2:(gU (val M)).length<=l:=qX ae;rw[<-qo hM]at q2;omega
    have g3:=ca (4294967296^((ij L).length+1-(ij M).length)) g2;rw[<-aV]at g3;refine aX ?_ g3;exact bh ag ae 
   .rw [JV (kB _),jC,dt _ (aY ag)]
   .rw [mC];omega
   .rw [JC,eo]
    have hb:32-ia ((ij M).getD ((ij M).length-1) 0)<33:= ae ;have:=agf (kB (val L%val M)) (32-ia ((ij M).getD ((ij M).length-1) 0));rw[jC]at this;have h3:(gU (val L%val M)).length<=(gU (val L)).length:=lW (dk _ _);rw[<-qo hL]at h3;omega
theorem yI(m n:Nat)(h1:(gU m).length<=256)(h2:(gU n).length<=256)(h0:n≠0):gV 296 [gX (gU m),gX (gU n)] (.iw [gX (gU (m/n)),gX (gU (m%n)),iP 0]):=by
 obtain⟨T,S,Ep,hT,hS,oT,oS,_,_⟩:=M7 (gU m) (gU n) (kB m) (kB n) ae ae (by rw[jC];exact h0);rw[jC,jC]at hT hS;have hz:ij (gU n)=gU n:=tn n;have hl:=pM h0;have ns:(((ij (gU n)).length:Int)==0)=false:=by rw[hz];exact nj hl
 exact tr true Tryz.call296 Tryz.func296 (chain [.c (UX (gU m) (gU n) af af),.c (tg _ (kB _):gV 167 [(gX (gU n))] _),tB 18 (ns:(((ij (gU n)).length:Int)==0)=false),.c (Ep:gV 319 [(gX (gU m)),(gX (gU n))] _),.c (tg _ af:gV 167 [(gX T)] _),.c (Qt _ (iC.ij af):gV 128 [(gX (ij T))] _),.c (tg _ af:gV 167 [(gX S)] _),.c (Qt _ (iC.ij af):gV 128 [(gX (ij S))] _)]<|rQ (.iw [(gX (ij T)),(gX (ij S)),(iP 0)]) (.iw [gX (gU (m/n)),gX (gU (m%n)),iP 0]) (by rw[qo oT,qo oS,hT,hS])) ah 
open Go.RowKit Fp Pu
theorem Wi(a b:Dy)(p:Nat)(up:Bool)(ha:a.ib)(hb:b.ib)(b0:b.m≠0)(il:8<=p)(ic:p<=512):gV 275 [(gY a),(gY b),(iP p),(bP up)] (.iw [gY (kt a b p up),iP (nc a b p up)]):=by
 by_cases a0:a.m=0
 .have e1:kt a b p up=jx/\nc a b p up=0:=by unfold kt nc;rw[aR a0,aR a0];exact⟨rfl,rfl⟩
  exact tr true Tryz.call275 Tryz.func275 (chain [.o 18 (.e (vI _ _):PV.le (.e (.sl true 2 3 fun i_ j_=>(jo a++jo b).getD (i_*3+j_) (.v (.bool false)))) (.e (np [a,b]))),.c (wm _ _ _ af af ae ae:gV 177 [(iP p),(np [a,b])] _),tB 21 (ag:((0:Int) != 0)=false),tB 28 (nj (pM b0):(((gU b.m).length:Int)==0)=false),tB 34 (rM (qN.2 a0):(((gU a.m).length:Int)==0)=true),.o 35 (.e vu:PV.le (.e (.agg [(bP false),(.v (.slice none 0 0)),(iP 0)])) (.e (gY jx)))]<|rQ (.iw [(gY jx),(iP 0)]) (.iw [gY (kt a b p up),iP (nc a b p up)]) (by rw[e1.1,e1.2])) ah 
 .have va:=ha.gU
  have vb:=hb.gU;have xa:=ha.exp;have xb:=hb.exp;have ra:=ha.range.resolve_left a0;have rb:=hb.range.resolve_left b0;have pa:=mR a0;have pb:=mR b0;have hK:kn a b p 3=p+3+ia b.m-ia a.m:=rfl;have bs:=qf a0 (kn a b p 3);have z1:(gU (a.m*2^kn a b p 3)).length<=256:=ng ae;have hq:=KN a0 b0 p 3 ag;have q0:a.m*2^kn a b p 3/b.m≠0:=by intro q;rw[q,qR]at hq;omega
  have z2:(gU (a.m*2^kn a b p 3/b.m)).length<=256:=ng (by have:=sQ (bw (a.m*2^kn a b p 3) b.m);omega);have z3:(gU (a.m*2^kn a b p 3%b.m)).length<=256:=ng (by have:=sQ (cW (bg (a.m*2^kn a b p 3) (dB b0)));omega);have jI:decide (0<(ia (a.m*2^kn a b p 3%b.m):Int))=decide (a.m*2^kn a b p 3%b.m≠0):=by
   by_cases h:a.m*2^kn a b p 3%b.m=0
   .rw [h,qR];rfl
   .have:=mR h
    rw[aS h,aS ae]
  obtain⟨d1,d2⟩:=abz a0 b0 p up;have h0:a.m*2^kn a b p 3/b.m≠0\/a.m*2^kn a b p 3/b.m=0/\a.e-(kn a b p 3:Int)-b.e=0/\decide (0<(ia (a.m*2^kn a b p 3%b.m):Int))=false:=.inl q0;have hm:decide (0<(ia (a.m*2^kn a b p 3%b.m):Int))=true->p<ia (a.m*2^kn a b p 3/b.m):=fun _=>hq
  exact tr true Tryz.call275 Tryz.func275 (chain [.o 18 (.e (vI _ _):PV.le (.e (.sl true 2 3 fun i_ j_=>(jo a++jo b).getD (i_*3+j_) (.v (.bool false)))) (.e (np [a,b]))),.c (wm _ _ _ af af ae ae:gV 177 [(iP p),(np [a,b])] _),tB 21 (ag:((0:Int) != 0)=false),tB 28 (nj (pM b0):(((gU b.m).length:Int)==0)=false),tB 34 (nj (pM a0):(((gU a.m).length:Int)==0)=false),iq ((p:Int)+3) ae,.c (G7 _ af:gV 295 [(gY b)] _),iq (((p:Int)+3)+(ia (Dy.m b):Int)) ae,.c (G7 _ af:gV 295 [(gY a)] _),
   iq ((((p:Int)+3)+(ia (Dy.m b):Int))-(ia (Dy.m a):Int)) ae,.o 44 (.int au:PV.le (.e (iP (if((((p:Int)+3)+(ia (Dy.m b):Int))-(ia (Dy.m a):Int))>0 then((((p:Int)+3)+(ia (Dy.m b):Int))-(ia (Dy.m a):Int))else 0))) (.e (iP (kn a b p 3:Int)))),.c (vj a.m (kn a b p 3) ae ae ae),.c (yI _ _ ae ae af:gV 296 [(gX (gU (a.m*2^(kn a b p 3)))),(gX (gU b.m))] _),
   iq (a.e-(kn a b p 3:Int)) ae,iq ((a.e-(kn a b p 3:Int))-b.e) ae,.c (r9 _ ae:gV 194 [(gX (gU ((a.m*2^(kn a b p 3))%b.m)))] _),.c (FL (! (a.neg==b.neg)) ((a.m*2^(kn a b p 3))/b.m) ((a.e-(kn a b p 3:Int))-b.e) (decide (0<(ia ((a.m*2^(kn a b p 3))%b.m):Int))) up p ae af ae ae ae ae af)]<|rQ (.iw [(gY (jP (!(a.neg==b.neg)) ((a.m*2^(kn a b p 3))/b.m) ((a.e-(kn a b p 3:Int))-b.e) (decide (0<(ia ((a.m*2^(kn a b p 3))%b.m):Int))) p up)),(iP (jG (!(a.neg==b.neg)) ((a.m*2^(kn a b p 3))/b.m) ((a.e-(kn a b p 3:Int))-b.e) (decide (0<(ia ((a.m*2^(kn a b p 3))%b.m):Int))) p up))]) (.iw [gY (kt a b p up),iP (nc a b p up)]) (by rw[<-d1,<-d2,<-jI];rfl)) ah 
theorem Wg(a b:Dy)(p:Nat)(ha:a.ib)(hb:b.ib)(b0:b.m≠0)(il:8<=p)(ic:p<=512):gV 236 [(gY a),(gY b),(iP p)] (.iw [gY (kt a b p false),iP (nc a b p false)]):=by
 exact tr true Tryz.call236 Tryz.func236 (chain [.c (Wi _ _ _ _ af af af ae ae:gV 275 [(gY a),(gY b),(iP p),(bP false)] _)]<|.nil) ah 
theorem Wh(a b:Dy)(p:Nat)(ha:a.ib)(hb:b.ib)(b0:b.m≠0)(il:8<=p)(ic:p<=512):gV 237 [(gY a),(gY b),(iP p)] (.iw [gY (kt a b p true),iP (nc a b p true)]):=by
 exact tr true Tryz.call237 Tryz.func237 (chain [.c (Wi _ _ _ _ af af af ae ae:gV 275 [(gY a),(gY b),(iP p),(bP true)] _)]<|.nil) ah 
open Go.RowKit Fp Pu
def T3(l:List Iv)(i:Nat):PS:=⟨19,true,[(7,.e (iP i)),(6,.e (iP l.length)),(5,.e (ik l))],[]⟩
def T2(l:List Iv)(N:Nat)(i:Nat):PS:=⟨19,true,[(7,.e (iP i)),(6,.e (iP l.length)),(5,.e (ik l))],[]⟩
theorem mz(a:Iv):E.le (.sl true 1 7 fun i j=>(iY a).getD (i*7+j) (.v (.bool false))) (ik [a]):=.sl fun i j hi hj=>by
 obtain rfl:i=0:= ae ;rcases j with _|_|_|_|_|_|_|j
 all_goals first|exact⟨.refl _,rfl⟩|omega
theorem yA(a b:Iv):E.le (.sl true 2 7 fun i j=>(iY a++iY b).getD (i*7+j) (.v (.bool false))) (ik [a,b]):=.sl fun i j hi hj=>by
 obtain rfl|rfl:i=0\/i=1:= ae 
 all_goals
  rcases j with _|_|_|_|_|_|_|j
  all_goals first|exact⟨.refl _,rfl⟩|omega
theorem oW{x:Iv}(h:x.ib)(ha:x.all=false):x.lo.ib/\x.hi.ib/\jm x.lo x.hi<=0:=by
 rcases h with⟨h1,_⟩|⟨_,h⟩
 .rw [ha]at h1;cases h1
 .exact h
theorem MJ{x:Iv}(h:x.ib)(ha:x.all=true):x.lo=jx/\x.hi=jx:=by
 rcases h with⟨_,h⟩|⟨h1,_⟩
 .exact h
 .rw [ha]at h1;cases h1
theorem nv : gV 69 [] (gZ ie):=by
 exact tr true Tryz.call69 Tryz.func69 (chain [.o 1 (.e Ge:PV.le (.e (.agg [(bP false),(.v (.slice none 0 0)),(iP 0),(bP false),(.v (.slice none 0 0)),(iP 0),(bP true)])) (.e (gZ ie)))]<|.nil) ah 
theorem Bz(lo hi:Dy)(e f:Int):gV 90 [(gY lo),(iP e),(gY hi),(iP f)] (gZ (kE lo e hi f)):=by
 by_cases he:e=0
 .by_cases hf:f=0
  .exact tr true Tryz.call90 Tryz.func90 (chain [tB 10 (by rw[he];rfl:(e != 0)=false),tB 13 (by rw[hf];rfl:(f != 0)=false)]<|rQ (gZ (Iv.mk lo hi false)) (gZ (kE lo e hi f)) (by rw[show kE lo e hi f=⟨lo,hi,false⟩by unfold kE;rw[aQ (by simp[he,hf])]];try rfl)) ah 
  .exact tr true Tryz.call90 Tryz.func90 (chain [tB 10 (by rw[he];rfl:(e != 0)=false),tB 13 (by simpa using hf:(f != 0)=true),.c (nv:gV 69 [] _)]<|rQ (gZ ie) (gZ (kE lo e hi f)) (by rw[show kE lo e hi f=ie by unfold kE;rw[aR (.inr hf)]])) ah 
 .exact tr true Tryz.call90 Tryz.func90 (chain [tB 10 (by simpa using he:(e != 0)=true),.c (nv:gV 69 [] _)]<|rQ (gZ ie) (gZ (kE lo e hi f)) (by rw[show kE lo e hi f=ie by unfold kE;rw[aR (.inl he)]])) ah 
theorem T7 : gV 137 [(gY jx)] (bP true):=by
 exact tr true Tryz.call137 Tryz.func137 (chain [tB 4 (rfl:jx.neg=false),tB 10 (rM (qN.2 rfl):(((gU jx.m).length:Int)==0)=true),tB 15 (rfl:(jx.e==0)=true)]<|.nil) ah 
theorem qM(x:Iv)(hx:x.ib):gV 84 [(gZ x)] (bP true):=by
 by_cases kz:x.all=true
 .obtain ⟨h1,h2⟩:=MJ hx kz
  exact tr true Tryz.call84 Tryz.func84 (chain [tB 5 (kz:x.all=true),.c (by rw[h1];exact T7:gV 137 [(gY x.lo)] (bP true)),.c (by rw[h2];exact T7:gV 137 [(gY x.hi)] (bP true))]<|.nil) ah 
 .replace kz:x.all=false:=by simpa using kz
  obtain⟨h1,h2,h3⟩:=oW hx kz;exact tr true Tryz.call84 Tryz.func84 (chain [tB 5 (kz:x.all=false),.c (qg _ af:gV 68 [(gY x.lo)] _),.c (qg _ af:gV 68 [(gY x.hi)] _),.c (nS _ _ af af:gV 37 [(gY x.lo),(gY x.hi)] _),tB 30 (aS h3)]<|.nil) ah 
theorem T4(l:List Iv)(hl:l.length<=1000)(hv:∀ i,i<l.length->(l.getD i ie).ib)(ha:∀ i,i<l.length->(l.getD i ie).all=false):gV 86 [(ik l)] (bP true):=by
 exact tr true Tryz.call86 Tryz.func86 (chain [.s (Sp.jv (T3 l) 0 l.length ae (fun i hi pG=>by
    have Tp:=hv i ae;have LH:=ha i ae;exact iB (chain [tT 8 ((i:Int)<(l.length:Int)) ae,iX ((i:Int)) (l.length) ae,tB 12 (LH:(l.getD i ie).all=false),.c (qM _ af:gV 84 [(gZ (l.getD i ie))] _),
     iq ((i:Int)+1) ae]<|.nil) ah)
  (fun hi=>by
    exact iB (chain [tF 8 ((l.length:Int)<(l.length:Int)) ae]<|.nil) ah) ak:jq 2 Tryz.f86 (T3 l 0) (.exit 0) ⟨19,true,[],[]⟩) .nil]<|.nil) ah 
theorem MH(l:List Iv)(hl:l.length<=1000)(hv:∀ i,i<l.length->(l.getD i ie).ib)(N:Nat)(hN:N<l.length)(ha:∀ i,i<N->(l.getD i ie).all=false)(rV:(l.getD N ie).all=true):gV 86 [(ik l)] (bP false):=by
 exact tr true Tryz.call86 Tryz.func86 (chain [.s (Sp.jv (T2 l N) 0 N ae (fun i hi pG=>by
    have Tp:=hv i ae;have LH:=ha i ae;exact iB (chain [tT 8 ((i:Int)<(l.length:Int)) ae,iX ((i:Int)) (l.length) ae,tB 12 (LH:(l.getD i ie).all=false),.c (qM _ af:gV 84 [(gZ (l.getD i ie))] _),
     iq ((i:Int)+1) ae]<|.nil) ah)
  (fun hi=>by
    exact iB (chain [tT 8 ((N:Int)<(l.length:Int)) ae,iX ((N:Int)) (l.length) ae,tB 12 (rV:(l.getD N ie).all=true)]<|.nil) ah) ak:jq 2 Tryz.f86 (T2 l N 0) .ret ⟨19,true,[(2,.e (bP false))],[]⟩) .nil]<|.nil) ah 
theorem pK(x:Iv)(hx:x.ib):gV 86 [ik [x]] (bP (!x.all)):=by
 have hv:∀ i,i<[x].length->([x].getD i ie).ib:=fun i hi=>(match i,hi with
  | 0,_=>hx
  |n+1,hi=>absurd hi aj)
 cases kz:x.all with
 |true=>exact MH [x] aj hv 0 aj (fun i hi=>absurd hi (bj i)) kz
 |false=>exact T4 [x] aj hv (fun i hi=>(match i,hi with
  | 0,_=>kz
  |n+1,hi=>absurd hi aj))
theorem yz(x y:Iv)(hx:x.ib)(hy:y.ib):gV 86 [ik [x,y]] (bP (!(x.all||y.all))):=by
 have hv:∀ i,i<[x,y].length->([x,y].getD i ie).ib:=fun i hi=>(match i,hi with
  | 0,_=>hx
  | 1,_=>hy
  |n+2,hi=>absurd hi aj)
 cases kz:x.all with
 |true=>exact MH [x,y] aj hv 0 aj (fun i hi=>absurd hi (bj i)) kz
 |false=>cases z8:y.all with
  |true=>exact MH [x,y] aj hv 1 aj (fun i hi=>(match i,hi with
   | 0,_=>kz
   |n+1,hi=>absurd hi ae)) z8
  |false=>exact T4 [x,y] aj hv (fun i hi=>(match i,hi with
   | 0,_=>kz
   | 1,_=>z8
   |n+2,hi=>absurd hi aj))
theorem C0(x y:Iv)(p:Nat)(hx:x.ib)(hy:y.ib)(il:8<=p)(ic:p<=512):gV 44 [(gZ x),(gZ y),(iP p)] (gZ (jj x y p)):=by
 by_cases hk:(x.all||y.all)=true
 .exact tr true Tryz.call44 Tryz.func44 (chain [.o 13 (.e (yA _ _):PV.le (.e (.sl true 2 7 fun i_ j_=>(iY x++iY y).getD (i_*7+j_) (.v (.bool false)))) (.e (ik [x,y]))),.c (yz _ _ af af:gV 86 [(ik [x,y])] _),tB 14 (by rw[hk];rfl:(!(x.all||y.all))=false),.c (nv:gV 69 [] _)]<|rQ (gZ ie) (gZ (jj x y p)) (by rw[show jj x y p=ie by unfold jj;rw[aR hk]])) ah 
 .replace hk:(x.all||y.all)=false:=by simpa using hk
  have kz:x.all=false:=by cases h:x.all;rfl;rw[h]at hk;simp at hk
  have z8:y.all=false:=by cases h:y.all;rfl;rw[h]at hk;simp at hk
  obtain⟨v1,v2,v3⟩:=oW hx kz;obtain⟨v4,v5,v6⟩:=oW hy z8;exact tr true Tryz.call44 Tryz.func44 (chain [.o 13 (.e (yA _ _):PV.le (.e (.sl true 2 7 fun i_ j_=>(iY x++iY y).getD (i_*7+j_) (.v (.bool false)))) (.e (ik [x,y]))),.c (yz _ _ af af:gV 86 [(ik [x,y])] _),tB 14 (by rw[hk];rfl:(!(x.all||y.all))=true),.c (u5 _:gV 87 [(iP p)] _),tB 18 (oZ.2 ⟨ae,ae⟩:(lh (p:Int))=true),.c (aiO x.lo y.lo p af af ae ae),.c (We x.hi y.hi p af af ae ae),.c (Bz _ _ _ _:gV 90 [(gY (jh (iI x.lo y.lo) p false)),(iP (jz (iI x.lo y.lo) p false)),(gY (jh (iI x.hi y.hi) p true)),(iP (jz (iI x.hi y.hi) p true))] _)]<|rQ (gZ (kE (jh (iI x.lo y.lo) p false) (jz (iI x.lo y.lo) p false) (jh (iI x.hi y.hi) p true) (jz (iI x.hi y.hi) p true))) (gZ (jj x y p)) (by rw[show jj x y p=_ by unfold jj;rw[aQ (by rw[hk];decide)]])) ah 
theorem T5(x:Iv)(hx:x.ib):gV 240 [(gZ x)] (gZ (qD x)):=by
 by_cases kz:x.all=true
 .exact tr true Tryz.call240 Tryz.func240 (chain [.o 4 (.e (mz _):PV.le (.e (.sl true 1 7 fun i_ j_=>(iY x).getD (i_*7+j_) (.v (.bool false)))) (.e (ik [x]))),.c (pK _ af:gV 86 [(ik [x])] _),tB 5 (by rw[kz];rfl:(!x.all)=false),.c (nv:gV 69 [] _)]<|rQ (gZ ie) (gZ (qD x)) (by rw[show qD x=ie by unfold qD;rw[aR kz]])) ah 
 .replace kz:x.all=false:=by simpa using kz
  obtain⟨v1,v2,v3⟩:=oW hx kz;exact tr true Tryz.call240 Tryz.func240 (chain [.o 4 (.e (mz _):PV.le (.e (.sl true 1 7 fun i_ j_=>(iY x).getD (i_*7+j_) (.v (.bool false)))) (.e (ik [x]))),.c (pK _ af:gV 86 [(ik [x])] _),tB 5 (by rw[kz];rfl:(!x.all)=true),.c (xR _ af:gV 191 [(gY x.hi)] _),.c (xR _ af:gV 191 [(gY x.lo)] _)]<|rQ (gZ (Iv.mk (iF x.hi) (iF x.lo) false)) (gZ (qD x)) (by rw[show qD x=⟨iF x.hi,iF x.lo,false⟩by unfold qD;rw[aQ (by rw[kz];decide)]];try rfl)) ah 
theorem afH(x y:Iv)(p:Nat)(hx:x.ib)(hy:y.ib)(il:8<=p)(ic:p<=512):gV 238 [(gZ x),(gZ y),(iP p)] (gZ (FY x y p)):=by
 have hn:=Fk hy;exact tr true Tryz.call238 Tryz.func238 (chain [.c (T5 _ af:gV 240 [(gZ y)] _),.c (C0 _ _ _ af af ae ae:gV 44 [(gZ x),(gZ (qD y)),(iP p)] _)]<|.nil) ah 
theorem C2(d:Dy)(hd:d.ib):gV 29 [(gY d)] (gZ (me d)):=by
 exact tr true Tryz.call29 Tryz.func29 (chain [.c (qg _ af:gV 68 [(gY d)] _)]<|.nil) ah 
theorem D5(d:Dy)(hd:d.ib):gV 302 [(gY d)] (gY (kY d)):=by
 have hl:=hd.gU;by_cases h0:d.m=0
 .have e1:kY d=jx:=by
   rcases hd.canon with q|q
   .unfold kY jx;rw[q.1,q.2.2]
   .omega
  exact tr true Tryz.call302 Tryz.func302 (chain [.c (qg _ af:gV 68 [(gY d)] _),tB 10 (rM (qN.2 h0):(((gU d.m).length:Int)==0)=true),.o 12 (.e vu:PV.le (.e (.agg [(bP false),(.v (.slice none 0 0)),(iP 0)])) (.e (gY jx)))]<|rQ (gY jx) (gY (kY d)) (by rw[e1])) ah 
 .exact tr true Tryz.call302 Tryz.func302 (chain [.c (qg _ af:gV 68 [(gY d)] _),tB 10 (nj (pM h0):(((gU d.m).length:Int)==0)=false),.c (Qu _ (kB _) ae:gV 129 [(gX (gU d.m))] _)]<|.nil) ah 
theorem IL(a b:Dy)(ha:a.ib)(hb:b.ib):gV 192 [(gY a),(gY b)] (gY (iU a b)):=by
 have hc:=wK a b;by_cases h:(jm a b<=0)
 .exact tr true Tryz.call192 Tryz.func192 (chain [.c (nS _ _ af af:gV 37 [(gY a),(gY b)] _),tB 8 (aS h)]<|rQ (gY a) (gY (iU a b)) (by unfold iU;rw[aQ ae])) ah 
 .exact tr true Tryz.call192 Tryz.func192 (chain [.c (nS _ _ af af:gV 37 [(gY a),(gY b)] _),tB 8 (aT h)]<|rQ (gY b) (gY (iU a b)) (by unfold iU;rw[aR ae])) ah 
theorem IM(a b:Dy)(ha:a.ib)(hb:b.ib):gV 193 [(gY a),(gY b)] (gY (iO a b)):=by
 have hc:=wK a b;by_cases h:(0<=jm a b)
 .exact tr true Tryz.call193 Tryz.func193 (chain [.c (nS _ _ af af:gV 37 [(gY a),(gY b)] _),tB 8 (aS h)]<|rQ (gY a) (gY (iO a b)) (by unfold iO;rw[aQ ae])) ah 
 .exact tr true Tryz.call193 Tryz.func193 (chain [.c (nS _ _ af af:gV 37 [(gY a),(gY b)] _),tB 8 (aT h)]<|rQ (gY b) (gY (iO a b)) (by unfold iO;rw[aR ae])) ah 
theorem IP(x:Iv)(hx:x.ib):gV 276 [(gZ x)] (iP (lL x)):=by
 by_cases kz:x.all=true
 .exact tr true Tryz.call276 Tryz.func276 (chain [.o 5 (.e (mz _):PV.le (.e (.sl true 1 7 fun i_ j_=>(iY x).getD (i_*7+j_) (.v (.bool false)))) (.e (ik [x]))),.c (pK _ af:gV 86 [(ik [x])] _),tB 6 (by rw[kz];rfl:(!x.all)=false)]<|rQ (iP 0) (iP (lL x)) (by rw[show lL x=0 by unfold lL;rw[aR kz]])) ah 
 .replace kz:x.all=false:=by simpa using kz
  obtain⟨v1,v2,v3⟩:=oW hx kz;by_cases h1:0<x.lo.iK
  .exact tr true Tryz.call276 Tryz.func276 (chain [.o 5 (.e (mz _):PV.le (.e (.sl true 1 7 fun i_ j_=>(iY x).getD (i_*7+j_) (.v (.bool false)))) (.e (ik [x]))),.c (pK _ af:gV 86 [(ik [x])] _),tB 6 (by rw[kz];rfl:(!x.all)=true),.c (nT _ af:gV 35 [(gY x.lo)] _),tB 12 (aS h1)]<|rQ (iP 1) (iP (lL x)) (by rw[show lL x=1 by unfold lL;rw[aQ (by rw[kz];decide)];simp[h1]])) ah 
  .by_cases h2:x.hi.iK<0
   .exact tr true Tryz.call276 Tryz.func276 (chain [.o 5 (.e (mz _):PV.le (.e (.sl true 1 7 fun i_ j_=>(iY x).getD (i_*7+j_) (.v (.bool false)))) (.e (ik [x]))),.c (pK _ af:gV 86 [(ik [x])] _),tB 6 (by rw[kz];rfl:(!x.all)=true),.c (nT _ af:gV 35 [(gY x.lo)] _),tB 12 (aT h1),.c (nT _ af:gV 35 [(gY x.hi)] _),tB 17 (aS h2)]<|rQ (iP (-1)) (iP (lL x)) (by rw[show lL x = -1 by unfold lL;rw[aQ (by rw[kz];decide)];simp[h1,h2]])) ah 
   .exact tr true Tryz.call276 Tryz.func276 (chain [.o 5 (.e (mz _):PV.le (.e (.sl true 1 7 fun i_ j_=>(iY x).getD (i_*7+j_) (.v (.bool false)))) (.e (ik [x]))),.c (pK _ af:gV 86 [(ik [x])] _),tB 6 (by rw[kz];rfl:(!x.all)=true),.c (nT _ af:gV 35 [(gY x.lo)] _),tB 12 (aT h1),.c (nT _ af:gV 35 [(gY x.hi)] _),tB 17 (aT h2)]<|rQ (iP 0) (iP (lL x)) (by rw[show lL x=0 by unfold lL;rw[aQ (by rw[kz];decide)];simp[h1,h2]])) ah 
theorem MI(x:Iv)(hx:x.ib)(kz:x.all=false):gV 298 [(gZ x)] (.iw [gY (mu x),bP true]):=by
 obtain⟨v1,v2,v3⟩:=oW hx kz;have w1:=ru v1;have w2:=ru v2;exact tr true Tryz.call298 Tryz.func298 (chain [.o 5 (.e (mz _):PV.le (.e (.sl true 1 7 fun i_ j_=>(iY x).getD (i_*7+j_) (.v (.bool false)))) (.e (ik [x]))),.c (pK _ af:gV 86 [(ik [x])] _),tB 6 (by rw[kz];rfl:(!x.all)=true),.c (D5 _ af:gV 302 [(gY x.lo)] _),.c (D5 _ af:gV 302 [(gY x.hi)] _),.c (IM _ _ af af:gV 193 [(gY (kY x.lo)),(gY (kY x.hi))] _)]<|.nil) ah 
theorem afD(x:Iv)(hx:x.ib)(kz:x.all=false):gV 297 [(gZ x)] (.iw [gY (ni x),bP true]):=by
 obtain⟨v1,v2,v3⟩:=oW hx kz;have w1:=ru v1;have w2:=ru v2;by_cases hs:lL x=0
 .exact tr true Tryz.call297 Tryz.func297 (chain [.o 5 (.e (mz _):PV.le (.e (.sl true 1 7 fun i_ j_=>(iY x).getD (i_*7+j_) (.v (.bool false)))) (.e (ik [x]))),.c (pK _ af:gV 86 [(ik [x])] _),tB 6 (by rw[kz];rfl:(!x.all)=true),.c (IP _ af:gV 276 [(gZ x)] _),tB 11 (by rw[hs];rfl:((lL x)==0)=true),.o 12 (.e vu:PV.le (.e (.agg [(bP false),(.v (.slice none 0 0)),(iP 0)])) (.e (gY jx)))]<|rQ (.iw [(gY jx),(bP true)]) (.iw [gY (ni x),bP true]) (by rw[show ni x=jx by unfold ni;rw[aR hs]])) ah 
 .exact tr true Tryz.call297 Tryz.func297 (chain [.o 5 (.e (mz _):PV.le (.e (.sl true 1 7 fun i_ j_=>(iY x).getD (i_*7+j_) (.v (.bool false)))) (.e (ik [x]))),.c (pK _ af:gV 86 [(ik [x])] _),tB 6 (by rw[kz];rfl:(!x.all)=true),.c (IP _ af:gV 276 [(gZ x)] _),tB 11 (by simpa using hs:((lL x)==0)=false),.c (D5 _ af:gV 302 [(gY x.lo)] _),.c (D5 _ af:gV 302 [(gY x.hi)] _),.c (IL _ _ af af:gV 192 [(gY (kY x.lo)),(gY (kY x.hi))] _)]<|rQ (.iw [(gY (iU (kY x.lo) (kY x.hi))),(bP true)]) (.iw [gY (ni x),bP true]) (by rw[show ni x=iU (kY x.lo) (kY x.hi)by unfold ni;rw[aQ hs]])) ah 
theorem MG(x:Iv)(hx:x.ib):gV 277 [(gZ x)] (gZ (iW x)):=by
 by_cases kz:x.all=true
 .exact tr true Tryz.call277 Tryz.func277 (chain [.o 8 (.e (mz _):PV.le (.e (.sl true 1 7 fun i_ j_=>(iY x).getD (i_*7+j_) (.v (.bool false)))) (.e (ik [x]))),.c (pK _ af:gV 86 [(ik [x])] _),tB 9 (by rw[kz];rfl:(!x.all)=false),.c (nv:gV 69 [] _)]<|rQ (gZ ie) (gZ (iW x)) (by rw[show iW x=ie by unfold iW;rw[aR kz]])) ah 
 .replace kz:x.all=false:=by simpa using kz
  obtain⟨v1,v2,v3⟩:=oW hx kz;exact tr true Tryz.call277 Tryz.func277 (chain [.o 8 (.e (mz _):PV.le (.e (.sl true 1 7 fun i_ j_=>(iY x).getD (i_*7+j_) (.v (.bool false)))) (.e (ik [x]))),.c (pK _ af:gV 86 [(ik [x])] _),tB 9 (by rw[kz];rfl:(!x.all)=true),.c (afD _ af kz:gV 297 [(gZ x)] _),.c (MI _ af kz:gV 298 [(gZ x)] _)]<|rQ (gZ (Iv.mk (ni x) (mu x) false)) (gZ (iW x)) (by rw[show iW x=⟨ni x,mu x,false⟩by unfold iW;rw[aQ (by rw[kz];decide)]];try rfl)) ah 
open Go.RowKit Fp Pu
def afz(x y:Iv)(p:Nat)(gd gu:FuncId)(DD:Dy->Dy->Bool->Dy)(EE:Dy->Dy->Bool->Int):PS:=⟨96,true,[(41,.e (iP 0)),(40,.e (.agg (iY (Iv.mk x.lo y.lo x.lo.neg)++[(gX (gU x.lo.m)),(iP x.lo.e)]++iY (Iv.mk y.hi x.hi y.lo.neg)++[(gX (gU y.lo.m)),(iP y.lo.e)]++jo x.hi++jo y.hi))),(12,.box 12 0),(10,.box 10 0),(2,.e (iP p)),(3,.e (.fn gd [])),(4,.e (.fn gu []))],[(12,.cells 41 (iY (Iv.mk (DD x.lo y.lo false) (DD x.lo y.lo true) false))),(10,.cells 41 [(bP false),(.v (.slice none 0 0)),(iP 0),(bP false),(.v (.slice none 0 0)),(iP 0),(bP false)])]⟩
def afA(x y:Iv)(p:Nat)(gd gu:FuncId)(DD:Dy->Dy->Bool->Dy)(EE:Dy->Dy->Bool->Int):PS:=⟨96,true,[(41,.e (iP (0+1))),(40,.e (.agg (iY (Iv.mk x.lo y.lo x.lo.neg)++[(gX (gU x.lo.m)),(iP x.lo.e)]++iY (Iv.mk y.hi x.hi y.lo.neg)++[(gX (gU y.lo.m)),(iP y.lo.e)]++jo x.hi++jo y.hi))),(12,.box 12 0),(10,.box 10 0),(2,.e (iP p)),(3,.e (.fn gd [])),(4,.e (.fn gu []))],[(12,.cells 41 (iY (Iv.mk (iU (DD x.lo y.lo false) (DD x.lo y.hi false)) (iO (DD x.lo y.lo true) (DD x.lo y.hi true)) false))),(10,.cells 41 [(bP false),(.v (.slice none 0 0)),(iP 0),(bP false),(.v (.slice none 0 0)),(iP 0),(bP false)])]⟩
def afB(x y:Iv)(p:Nat)(gd gu:FuncId)(DD:Dy->Dy->Bool->Dy)(EE:Dy->Dy->Bool->Int):PS:=⟨96,true,[(41,.e (iP ((0+1)+1))),(40,.e (.agg (iY (Iv.mk x.lo y.lo x.lo.neg)++[(gX (gU x.lo.m)),(iP x.lo.e)]++iY (Iv.mk y.hi x.hi y.lo.neg)++[(gX (gU y.lo.m)),(iP y.lo.e)]++jo x.hi++jo y.hi))),(12,.box 12 0),(10,.box 10 0),(2,.e (iP p)),(3,.e (.fn gd [])),(4,.e (.fn gu []))],[(12,.cells 41 (iY (Iv.mk (iU (iU (DD x.lo y.lo false) (DD x.lo y.hi false)) (DD x.hi y.lo false)) (iO (iO (DD x.lo y.lo true) (DD x.lo y.hi true)) (DD x.hi y.lo true)) false))),(10,.cells 41 [(bP false),(.v (.slice none 0 0)),(iP 0),(bP false),(.v (.slice none 0 0)),(iP 0),(bP false)])]⟩
def afC(x y:Iv)(p:Nat)(gd gu:FuncId)(DD:Dy->Dy->Bool->Dy)(EE:Dy->Dy->Bool->Int):PS:=⟨96,true,[(41,.e (iP (((0+1)+1)+1))),(40,.e (.agg (iY (Iv.mk x.lo y.lo x.lo.neg)++[(gX (gU x.lo.m)),(iP x.lo.e)]++iY (Iv.mk y.hi x.hi y.lo.neg)++[(gX (gU y.lo.m)),(iP y.lo.e)]++jo x.hi++jo y.hi))),(12,.box 12 0),(10,.box 10 0),(2,.e (iP p)),(3,.e (.fn gd [])),(4,.e (.fn gu []))],[(12,.cells 41 (iY (Iv.mk (iU (iU (iU (DD x.lo y.lo false) (DD x.lo y.hi false)) (DD x.hi y.lo false)) (DD x.hi y.hi false)) (iO (iO (iO (DD x.lo y.lo true) (DD x.lo y.hi true)) (DD x.hi y.lo true)) (DD x.hi y.hi true)) false))),(10,.cells 41 [(bP false),(.v (.slice none 0 0)),(iP 0),(bP false),(.v (.slice none 0 0)),(iP 0),(bP false)])]⟩
theorem TZ(x y:Iv)(p:Nat)(gd gu:FuncId)(DD:Dy->Dy->Bool->Dy)(EE:Dy->Dy->Bool->Int)(hd:∀ a b,(a=x.lo\/a=x.hi)->(b=y.lo\/b=y.hi)->gV gd [gY a,gY b,iP (p:Int)] (.iw [gY (DD a b false),iP (EE a b false)]))
  (hu:∀ a b,(a=x.lo\/a=x.hi)->(b=y.lo\/b=y.hi)->gV gu [gY a,gY b,iP (p:Int)] (.iw [gY (DD a b true),iP (EE a b true)])) (hv:∀ a b up,(DD a b up).ib):gV 91 [(gZ x),(gZ y),(iP p),(.fn gd []),(.fn gu [])] (gZ (mf DD EE x y)):=by
 exact tr true Tryz.call91 Tryz.func91 (chain [.u 5,tB 42 (ag:(decide ((0:Int)<4))=true)]<|.w ((EE x.lo y.lo false)=0)
  (fun k1=>.w ((EE x.lo y.lo true)=0)
   (fun k2=>chain [.j 3 (afz x y p gd gu DD EE)
   (chain [iX (0) (4) ae,iX (0) (2) ae,iX (1) (2) ae,.c (hd _ _ (.inl rfl) (.inl rfl):gV gd ((gY x.lo)::(gY y.lo)::(iP p)::[]) _),iX (0) (2) ae,iX (1) (2) ae,.c (hu _ _ (.inl rfl) (.inl rfl):gV gu ((gY x.lo)::(gY y.lo)::(iP p)::[]) _),tB 66 (aO k1),tB 69 (aO k2),tB 73 (ag:((0:Int)==0)=true),tB 84 (ag:((0:Int)==0)=true)]<|.nil),
    iq (0+1) ae,tB 42 (ag:(decide (((0+1):Int)<4))=true)]<|.w ((EE x.lo y.hi false)=0)
    (fun k3=>.w ((EE x.lo y.hi true)=0)
     (fun k4=>chain [.j 3 (afA x y p gd gu DD EE)
   (chain [iX ((0+1)) (4) ae,iX (0) (2) ae,iX (1) (2) ae,.c (hd _ _ (.inl rfl) (.inr rfl):gV gd ((gY x.lo)::(gY y.hi)::(iP p)::[]) _),iX (0) (2) ae,iX (1) (2) ae,.c (hu _ _ (.inl rfl) (.inr rfl):gV gu ((gY x.lo)::(gY y.hi)::(iP p)::[]) _),tB 66 (aO k3),tB 69 (aO k4),tB 73 (ag:(((0+1):Int)==0)=false),.c (nS _ _ (hv _ _ _) (hv _ _ _):gV 37 [(gY (DD x.lo y.hi false)),(gY (DD x.lo y.lo false))] _)]<|.w ((jm (DD x.lo y.hi false) (DD x.lo y.lo false))<0)
    (fun m1=>chain [tB 79 (aS m1),tB 84 (ag:(((0+1):Int)==0)=false),.c (nS _ _ (hv _ _ _) (hv _ _ _):gV 37 [(gY (DD x.lo y.hi true)),(gY (DD x.lo y.lo true))] _)]<|.w (0<(jm (DD x.lo y.hi true) (DD x.lo y.lo true)))
     (fun m2=>chain [tB 90 (aS m2)]<|.e (chain [.b 12 (.iS (by rw[show iU (DD x.lo y.lo false) (DD x.lo y.hi false)=(DD x.lo y.hi false)from aR m1,show iO (DD x.lo y.lo true) (DD x.lo y.hi true)=(DD x.lo y.hi true)from aR m2]):Bx.le (.cells 41 (iY (Iv.mk (DD x.lo y.hi false) (DD x.lo y.hi true) false))) (.cells 41 (iY (Iv.mk (iU (DD x.lo y.lo false) (DD x.lo y.hi false)) (iO (DD x.lo y.lo true) (DD x.lo y.hi true)) false))))]<|.nil))
     (fun m2=>chain [tB 90 (aT m2)]<|.e (chain [.b 12 (.iS (by rw[show iU (DD x.lo y.lo false) (DD x.lo y.hi false)=(DD x.lo y.hi false)from aR m1,show iO (DD x.lo y.lo true) (DD x.lo y.hi true)=(DD x.lo y.lo true)from aQ m2]):Bx.le (.cells 41 (iY (Iv.mk (DD x.lo y.hi false) (DD x.lo y.lo true) false))) (.cells 41 (iY (Iv.mk (iU (DD x.lo y.lo false) (DD x.lo y.hi false)) (iO (DD x.lo y.lo true) (DD x.lo y.hi true)) false))))]<|.nil)))
    (fun m1=>chain [tB 79 (aT m1),tB 84 (ag:(((0+1):Int)==0)=false),.c (nS _ _ (hv _ _ _) (hv _ _ _):gV 37 [(gY (DD x.lo y.hi true)),(gY (DD x.lo y.lo true))] _)]<|.w (0<(jm (DD x.lo y.hi true) (DD x.lo y.lo true)))
     (fun m2=>chain [tB 90 (aS m2)]<|.e (chain [.b 12 (.iS (by rw[show iU (DD x.lo y.lo false) (DD x.lo y.hi false)=(DD x.lo y.lo false)from aQ m1,show iO (DD x.lo y.lo true) (DD x.lo y.hi true)=(DD x.lo y.hi true)from aR m2]):Bx.le (.cells 41 (iY (Iv.mk (DD x.lo y.lo false) (DD x.lo y.hi true) false))) (.cells 41 (iY (Iv.mk (iU (DD x.lo y.lo false) (DD x.lo y.hi false)) (iO (DD x.lo y.lo true) (DD x.lo y.hi true)) false))))]<|.nil))
     (fun m2=>chain [tB 90 (aT m2)]<|.e (chain [.b 12 (.iS (by rw[show iU (DD x.lo y.lo false) (DD x.lo y.hi false)=(DD x.lo y.lo false)from aQ m1,show iO (DD x.lo y.lo true) (DD x.lo y.hi true)=(DD x.lo y.lo true)from aQ m2]):Bx.le (.cells 41 (iY (Iv.mk (DD x.lo y.lo false) (DD x.lo y.lo true) false))) (.cells 41 (iY (Iv.mk (iU (DD x.lo y.lo false) (DD x.lo y.hi false)) (iO (DD x.lo y.lo true) (DD x.lo y.hi true)) false))))]<|.nil)))),
      iq ((0+1)+1) ae,tB 42 (ag:(decide ((((0+1)+1):Int)<4))=true)]<|.w ((EE x.hi y.lo false)=0)
      (fun k5=>.w ((EE x.hi y.lo true)=0)
       (fun k6=>chain [.j 3 (afB x y p gd gu DD EE)
   (chain [iX (((0+1)+1)) (4) ae,iX (0) (2) ae,iX (1) (2) ae,.c (hd _ _ (.inr rfl) (.inl rfl):gV gd ((gY x.hi)::(gY y.lo)::(iP p)::[]) _),iX (0) (2) ae,iX (1) (2) ae,.c (hu _ _ (.inr rfl) (.inl rfl):gV gu ((gY x.hi)::(gY y.lo)::(iP p)::[]) _),tB 66 (aO k5),tB 69 (aO k6),tB 73 (ag:((((0+1)+1):Int)==0)=false),.c (nS _ _ (hv _ _ _) (pX (hv _ _ _) (hv _ _ _)):gV 37 [(gY (DD x.hi y.lo false)),(gY (iU (DD x.lo y.lo false) (DD x.lo y.hi false)))] _)]<|.w ((jm (DD x.hi y.lo false) (iU (DD x.lo y.lo false) (DD x.lo y.hi false)))<0)
    (fun m1=>chain [tB 79 (aS m1),tB 84 (ag:((((0+1)+1):Int)==0)=false),.c (nS _ _ (hv _ _ _) (oX (hv _ _ _) (hv _ _ _)):gV 37 [(gY (DD x.hi y.lo true)),(gY (iO (DD x.lo y.lo true) (DD x.lo y.hi true)))] _)]<|.w (0<(jm (DD x.hi y.lo true) (iO (DD x.lo y.lo true) (DD x.lo y.hi true))))
     (fun m2=>chain [tB 90 (aS m2)]<|.e (chain [.b 12 (.iS (by rw[show iU (iU (DD x.lo y.lo false) (DD x.lo y.hi false)) (DD x.hi y.lo false)=(DD x.hi y.lo false)from aR m1,show iO (iO (DD x.lo y.lo true) (DD x.lo y.hi true)) (DD x.hi y.lo true)=(DD x.hi y.lo true)from aR m2]):Bx.le (.cells 41 (iY (Iv.mk (DD x.hi y.lo false) (DD x.hi y.lo true) false))) (.cells 41 (iY (Iv.mk (iU (iU (DD x.lo y.lo false) (DD x.lo y.hi false)) (DD x.hi y.lo false)) (iO (iO (DD x.lo y.lo true) (DD x.lo y.hi true)) (DD x.hi y.lo true)) false))))]<|.nil))
     (fun m2=>chain [tB 90 (aT m2)]<|.e (chain [.b 12 (.iS (by rw[show iU (iU (DD x.lo y.lo false) (DD x.lo y.hi false)) (DD x.hi y.lo false)=(DD x.hi y.lo false)from aR m1,show iO (iO (DD x.lo y.lo true) (DD x.lo y.hi true)) (DD x.hi y.lo true)=(iO (DD x.lo y.lo true) (DD x.lo y.hi true))from aQ m2]):Bx.le (.cells 41 (iY (Iv.mk (DD x.hi y.lo false) (iO (DD x.lo y.lo true) (DD x.lo y.hi true)) false))) (.cells 41 (iY (Iv.mk (iU (iU (DD x.lo y.lo false) (DD x.lo y.hi false)) (DD x.hi y.lo false)) (iO (iO (DD x.lo y.lo true) (DD x.lo y.hi true)) (DD x.hi y.lo true)) false))))]<|.nil)))
    (fun m1=>chain [tB 79 (aT m1),tB 84 (ag:((((0+1)+1):Int)==0)=false),.c (nS _ _ (hv _ _ _) (oX (hv _ _ _) (hv _ _ _)):gV 37 [(gY (DD x.hi y.lo true)),(gY (iO (DD x.lo y.lo true) (DD x.lo y.hi true)))] _)]<|.w (0<(jm (DD x.hi y.lo true) (iO (DD x.lo y.lo true) (DD x.lo y.hi true))))
     (fun m2=>chain [tB 90 (aS m2)]<|.e (chain [.b 12 (.iS (by rw[show iU (iU (DD x.lo y.lo false) (DD x.lo y.hi false)) (DD x.hi y.lo false)=(iU (DD x.lo y.lo false) (DD x.lo y.hi false))from aQ m1,show iO (iO (DD x.lo y.lo true) (DD x.lo y.hi true)) (DD x.hi y.lo true)=(DD x.hi y.lo true)from aR m2]):Bx.le (.cells 41 (iY (Iv.mk (iU (DD x.lo y.lo false) (DD x.lo y.hi false)) (DD x.hi y.lo true) false))) (.cells 41 (iY (Iv.mk (iU (iU (DD x.lo y.lo false) (DD x.lo y.hi false)) (DD x.hi y.lo false)) (iO (iO (DD x.lo y.lo true) (DD x.lo y.hi true)) (DD x.hi y.lo true)) false))))]<|.nil))
     (fun m2=>chain [tB 90 (aT m2)]<|.e (chain [.b 12 (.iS (by rw[show iU (iU (DD x.lo y.lo false) (DD x.lo y.hi false)) (DD x.hi y.lo false)=(iU (DD x.lo y.lo false) (DD x.lo y.hi false))from aQ m1,show iO (iO (DD x.lo y.lo true) (DD x.lo y.hi true)) (DD x.hi y.lo true)=(iO (DD x.lo y.lo true) (DD x.lo y.hi true))from aQ m2]):Bx.le (.cells 41 (iY (Iv.mk (iU (DD x.lo y.lo false) (DD x.lo y.hi false)) (iO (DD x.lo y.lo true) (DD x.lo y.hi true)) false))) (.cells 41 (iY (Iv.mk (iU (iU (DD x.lo y.lo false) (DD x.lo y.hi false)) (DD x.hi y.lo false)) (iO (iO (DD x.lo y.lo true) (DD x.lo y.hi true)) (DD x.hi y.lo true)) false))))]<|.nil)))),
        iq (((0+1)+1)+1) ae,tB 42 (ag:(decide (((((0+1)+1)+1):Int)<4))=true)]<|.w ((EE x.hi y.hi false)=0)
        (fun k7=>.w ((EE x.hi y.hi true)=0)
         (fun k8=>chain [.j 3 (afC x y p gd gu DD EE)
   (chain [iX ((((0+1)+1)+1)) (4) ae,iX (0) (2) ae,iX (1) (2) ae,.c (hd _ _ (.inr rfl) (.inr rfl):gV gd ((gY x.hi)::(gY y.hi)::(iP p)::[]) _),iX (0) (2) ae,iX (1) (2) ae,.c (hu _ _ (.inr rfl) (.inr rfl):gV gu ((gY x.hi)::(gY y.hi)::(iP p)::[]) _),tB 66 (aO k7),tB 69 (aO k8),tB 73 (ag:(((((0+1)+1)+1):Int)==0)=false),.c (nS _ _ (hv _ _ _) (pX (pX (hv _ _ _) (hv _ _ _)) (hv _ _ _)):gV 37 [(gY (DD x.hi y.hi false)),(gY (iU (iU (DD x.lo y.lo false) (DD x.lo y.hi false)) (DD x.hi y.lo false)))] _)]<|.w ((jm (DD x.hi y.hi false) (iU (iU (DD x.lo y.lo false) (DD x.lo y.hi false)) (DD x.hi y.lo false)))<0)
    (fun m1=>chain [tB 79 (aS m1),tB 84 (ag:(((((0+1)+1)+1):Int)==0)=false),.c (nS _ _ (hv _ _ _) (oX (oX (hv _ _ _) (hv _ _ _)) (hv _ _ _)):gV 37 [(gY (DD x.hi y.hi true)),(gY (iO (iO (DD x.lo y.lo true) (DD x.lo y.hi true)) (DD x.hi y.lo true)))] _)]<|.w (0<(jm (DD x.hi y.hi true) (iO (iO (DD x.lo y.lo true) (DD x.lo y.hi true)) (DD x.hi y.lo true))))
     (fun m2=>chain [tB 90 (aS m2)]<|.e (chain [.b 12 (.iS (by rw[show iU (iU (iU (DD x.lo y.lo false) (DD x.lo y.hi false)) (DD x.hi y.lo false)) (DD x.hi y.hi false)=(DD x.hi y.hi false)from aR m1,show iO (iO (iO (DD x.lo y.lo true) (DD x.lo y.hi true)) (DD x.hi y.lo true)) (DD x.hi y.hi true)=(DD x.hi y.hi true)from aR m2]):Bx.le (.cells 41 (iY (Iv.mk (DD x.hi y.hi false) (DD x.hi y.hi true) false))) (.cells 41 (iY (Iv.mk (iU (iU (iU (DD x.lo y.lo false) (DD x.lo y.hi false)) (DD x.hi y.lo false)) (DD x.hi y.hi false)) (iO (iO (iO (DD x.lo y.lo true) (DD x.lo y.hi true)) (DD x.hi y.lo true)) (DD x.hi y.hi true)) false))))]<|.nil))
     (fun m2=>chain [tB 90 (aT m2)]<|.e (chain [.b 12 (.iS (by rw[show iU (iU (iU (DD x.lo y.lo false) (DD x.lo y.hi false)) (DD x.hi y.lo false)) (DD x.hi y.hi false)=(DD x.hi y.hi false)from aR m1,show iO (iO (iO (DD x.lo y.lo true) (DD x.lo y.hi true)) (DD x.hi y.lo true)) (DD x.hi y.hi true)=(iO (iO (DD x.lo y.lo true) (DD x.lo y.hi true)) (DD x.hi y.lo true))from aQ m2]):Bx.le (.cells 41 (iY (Iv.mk (DD x.hi y.hi false) (iO (iO (DD x.lo y.lo true) (DD x.lo y.hi true)) (DD x.hi y.lo true)) false))) (.cells 41 (iY (Iv.mk (iU (iU (iU (DD x.lo y.lo false) (DD x.lo y.hi false)) (DD x.hi y.lo false)) (DD x.hi y.hi false)) (iO (iO (iO (DD x.lo y.lo true) (DD x.lo y.hi true)) (DD x.hi y.lo true)) (DD x.hi y.hi true)) false))))]<|.nil)))
    (fun m1=>chain [tB 79 (aT m1),tB 84 (ag:(((((0+1)+1)+1):Int)==0)=false),.c (nS _ _ (hv _ _ _) (oX (oX (hv _ _ _) (hv _ _ _)) (hv _ _ _)):gV 37 [(gY (DD x.hi y.hi true)),(gY (iO (iO (DD x.lo y.lo true) (DD x.lo y.hi true)) (DD x.hi y.lo true)))] _)]<|.w (0<(jm (DD x.hi y.hi true) (iO (iO (DD x.lo y.lo true) (DD x.lo y.hi true)) (DD x.hi y.lo true))))
     (fun m2=>chain [tB 90 (aS m2)]<|.e (chain [.b 12 (.iS (by rw[show iU (iU (iU (DD x.lo y.lo false) (DD x.lo y.hi false)) (DD x.hi y.lo false)) (DD x.hi y.hi false)=(iU (iU (DD x.lo y.lo false) (DD x.lo y.hi false)) (DD x.hi y.lo false))from aQ m1,show iO (iO (iO (DD x.lo y.lo true) (DD x.lo y.hi true)) (DD x.hi y.lo true)) (DD x.hi y.hi true)=(DD x.hi y.hi true)from aR m2]):Bx.le (.cells 41 (iY (Iv.mk (iU (iU (DD x.lo y.lo false) (DD x.lo y.hi false)) (DD x.hi y.lo false)) (DD x.hi y.hi true) false))) (.cells 41 (iY (Iv.mk (iU (iU (iU (DD x.lo y.lo false) (DD x.lo y.hi false)) (DD x.hi y.lo false)) (DD x.hi y.hi false)) (iO (iO (iO (DD x.lo y.lo true) (DD x.lo y.hi true)) (DD x.hi y.lo true)) (DD x.hi y.hi true)) false))))]<|.nil))
     (fun m2=>chain [tB 90 (aT m2)]<|.e (chain [.b 12 (.iS (by rw[show iU (iU (iU (DD x.lo y.lo false) (DD x.lo y.hi false)) (DD x.hi y.lo false)) (DD x.hi y.hi false)=(iU (iU (DD x.lo y.lo false) (DD x.lo y.hi false)) (DD x.hi y.lo false))from aQ m1,show iO (iO (iO (DD x.lo y.lo true) (DD x.lo y.hi true)) (DD x.hi y.lo true)) (DD x.hi y.hi true)=(iO (iO (DD x.lo y.lo true) (DD x.lo y.hi true)) (DD x.hi y.lo true))from aQ m2]):Bx.le (.cells 41 (iY (Iv.mk (iU (iU (DD x.lo y.lo false) (DD x.lo y.hi false)) (DD x.hi y.lo false)) (iO (iO (DD x.lo y.lo true) (DD x.lo y.hi true)) (DD x.hi y.lo true)) false))) (.cells 41 (iY (Iv.mk (iU (iU (iU (DD x.lo y.lo false) (DD x.lo y.hi false)) (DD x.hi y.lo false)) (DD x.hi y.hi false)) (iO (iO (iO (DD x.lo y.lo true) (DD x.lo y.hi true)) (DD x.hi y.lo true)) (DD x.hi y.hi true)) false))))]<|.nil)))),
          iq ((((0+1)+1)+1)+1) ae,tB 42 (ag:(decide ((((((0+1)+1)+1)+1):Int)<4))=false)]<|rQ (gZ (Iv.mk (iU (iU (iU (DD x.lo y.lo false) (DD x.lo y.hi false)) (DD x.hi y.lo false)) (DD x.hi y.hi false)) (iO (iO (iO (DD x.lo y.lo true) (DD x.lo y.hi true)) (DD x.hi y.lo true)) (DD x.hi y.hi true)) false)) (gZ (mf DD EE x y)) (by rw[show mf DD EE x y=⟨(iU (iU (iU (DD x.lo y.lo false) (DD x.lo y.hi false)) (DD x.hi y.lo false)) (DD x.hi y.hi false)),(iO (iO (iO (DD x.lo y.lo true) (DD x.lo y.hi true)) (DD x.hi y.lo true)) (DD x.hi y.hi true)),false⟩from aR ⟨⟨k1,k2⟩,⟨k3,k4⟩,⟨k5,k6⟩,⟨k7,k8⟩⟩];try rfl))
         (fun k8=>chain [iX ((((0+1)+1)+1)) (4) ae,iX (0) (2) ae,iX (1) (2) ae,.c (hd _ _ (.inr rfl) (.inr rfl):gV gd ((gY x.hi)::(gY y.hi)::(iP p)::[]) _),iX (0) (2) ae,iX (1) (2) ae,.c (hu _ _ (.inr rfl) (.inr rfl):gV gu ((gY x.hi)::(gY y.hi)::(iP p)::[]) _),tB 66 (aO k7),tB 69 (aP k8),.c nv]<|rQ (gZ ie) (gZ (mf DD EE x y)) (by rw[show mf DD EE x y=ie from aQ (by rintro⟨⟨q0,r0⟩,⟨q1,r1⟩,⟨q2,r2⟩,⟨q3,r3⟩⟩;exact k8 r3)])))
        (fun k7=>chain [iX ((((0+1)+1)+1)) (4) ae,iX (0) (2) ae,iX (1) (2) ae,.c (hd _ _ (.inr rfl) (.inr rfl):gV gd ((gY x.hi)::(gY y.hi)::(iP p)::[]) _),iX (0) (2) ae,iX (1) (2) ae,.c (hu _ _ (.inr rfl) (.inr rfl):gV gu ((gY x.hi)::(gY y.hi)::(iP p)::[]) _),tB 66 (aP k7),.c nv]<|rQ (gZ ie) (gZ (mf DD EE x y)) (by rw[show mf DD EE x y=ie from aQ (by rintro⟨⟨q0,r0⟩,⟨q1,r1⟩,⟨q2,r2⟩,⟨q3,r3⟩⟩;exact k7 q3)])))
       (fun k6=>chain [iX (((0+1)+1)) (4) ae,iX (0) (2) ae,iX (1) (2) ae,.c (hd _ _ (.inr rfl) (.inl rfl):gV gd ((gY x.hi)::(gY y.lo)::(iP p)::[]) _),iX (0) (2) ae,iX (1) (2) ae,.c (hu _ _ (.inr rfl) (.inl rfl):gV gu ((gY x.hi)::(gY y.lo)::(iP p)::[]) _),tB 66 (aO k5),tB 69 (aP k6),.c nv]<|rQ (gZ ie) (gZ (mf DD EE x y)) (by rw[show mf DD EE x y=ie from aQ (by rintro⟨⟨q0,r0⟩,⟨q1,r1⟩,⟨q2,r2⟩,⟨q3,r3⟩⟩;exact k6 r2)])))
      (fun k5=>chain [iX (((0+1)+1)) (4) ae,iX (0) (2) ae,iX (1) (2) ae,.c (hd _ _ (.inr rfl) (.inl rfl):gV gd ((gY x.hi)::(gY y.lo)::(iP p)::[]) _),iX (0) (2) ae,iX (1) (2) ae,.c (hu _ _ (.inr rfl) (.inl rfl):gV gu ((gY x.hi)::(gY y.lo)::(iP p)::[]) _),tB 66 (aP k5),.c nv]<|rQ (gZ ie) (gZ (mf DD EE x y)) (by rw[show mf DD EE x y=ie from aQ (by rintro⟨⟨q0,r0⟩,⟨q1,r1⟩,⟨q2,r2⟩,⟨q3,r3⟩⟩;exact k5 q2)])))
     (fun k4=>chain [iX ((0+1)) (4) ae,iX (0) (2) ae,iX (1) (2) ae,.c (hd _ _ (.inl rfl) (.inr rfl):gV gd ((gY x.lo)::(gY y.hi)::(iP p)::[]) _),iX (0) (2) ae,iX (1) (2) ae,.c (hu _ _ (.inl rfl) (.inr rfl):gV gu ((gY x.lo)::(gY y.hi)::(iP p)::[]) _),tB 66 (aO k3),tB 69 (aP k4),.c nv]<|rQ (gZ ie) (gZ (mf DD EE x y)) (by rw[show mf DD EE x y=ie from aQ (by rintro⟨⟨q0,r0⟩,⟨q1,r1⟩,⟨q2,r2⟩,⟨q3,r3⟩⟩;exact k4 r1)])))
    (fun k3=>chain [iX ((0+1)) (4) ae,iX (0) (2) ae,iX (1) (2) ae,.c (hd _ _ (.inl rfl) (.inr rfl):gV gd ((gY x.lo)::(gY y.hi)::(iP p)::[]) _),iX (0) (2) ae,iX (1) (2) ae,.c (hu _ _ (.inl rfl) (.inr rfl):gV gu ((gY x.lo)::(gY y.hi)::(iP p)::[]) _),tB 66 (aP k3),.c nv]<|rQ (gZ ie) (gZ (mf DD EE x y)) (by rw[show mf DD EE x y=ie from aQ (by rintro⟨⟨q0,r0⟩,⟨q1,r1⟩,⟨q2,r2⟩,⟨q3,r3⟩⟩;exact k3 q1)])))
   (fun k2=>chain [iX (0) (4) ae,iX (0) (2) ae,iX (1) (2) ae,.c (hd _ _ (.inl rfl) (.inl rfl):gV gd ((gY x.lo)::(gY y.lo)::(iP p)::[]) _),iX (0) (2) ae,iX (1) (2) ae,.c (hu _ _ (.inl rfl) (.inl rfl):gV gu ((gY x.lo)::(gY y.lo)::(iP p)::[]) _),tB 66 (aO k1),tB 69 (aP k2),.c nv]<|rQ (gZ ie) (gZ (mf DD EE x y)) (by rw[show mf DD EE x y=ie from aQ (by rintro⟨⟨q0,r0⟩,⟨q1,r1⟩,⟨q2,r2⟩,⟨q3,r3⟩⟩;exact k2 r0)])))
  (fun k1=>chain [iX (0) (4) ae,iX (0) (2) ae,iX (1) (2) ae,.c (hd _ _ (.inl rfl) (.inl rfl):gV gd ((gY x.lo)::(gY y.lo)::(iP p)::[]) _),iX (0) (2) ae,iX (1) (2) ae,.c (hu _ _ (.inl rfl) (.inl rfl):gV gu ((gY x.lo)::(gY y.lo)::(iP p)::[]) _),tB 66 (aP k1),.c nv]<|rQ (gZ ie) (gZ (mf DD EE x y)) (by rw[show mf DD EE x y=ie from aQ (by rintro⟨⟨q0,r0⟩,⟨q1,r1⟩,⟨q2,r2⟩,⟨q3,r3⟩⟩;exact k1 q0)]))) ah 
open Go.RowKit Fp Pu
theorem Xh{y:Iv}(hy:y.ib)(hs:lL y≠0):y.lo.m≠0/\y.hi.m≠0:=by
 unfold lL at hs;have ha:y.all=false:=by
  cases h:y.all with
  |false=>rfl
  |true=>rw[h]at hs;exact absurd rfl hs
 obtain⟨v1,v2,v3⟩:=oW hy ha;rw[ha]at hs;simp only[bq,a6]at hs;have z:∀ d:Dy,d.m=0->d.iK=0:=fun d h=>by unfold Dy.iK;rw[aR h]
 have hc:=Cj y.lo y.hi;rw[hc]at v3;constructor
 .intro h0
  have:=z _ h0;rw[this]at hs v3;split at hs
  .omega
  .split at hs
   .split at v3<;>omega
   .exact hs rfl
 .intro h0
  have:=z _ h0;rw[this]at hs v3;split at hs
  .split at v3<;>omega
  .split at hs
   .omega
   .exact hs rfl
theorem abv(a b:Dy){p:Nat}(up:Bool)(hp:1<=p)(ic:p<=4096):(kt a b p up).ib:=by
 unfold kt;split
 .exact rm
 .exact mi _ _ _ _ _ _ hp ic
theorem ET(x y:Iv)(p:Nat)(hx:x.ib)(hy:y.ib)(il:8<=p)(ic:p<=512):gV 45 [(gZ x),(gZ y),(iP p)] (gZ (iN x y p)):=by
 by_cases hk:(x.all||y.all)=true
 .exact tr true Tryz.call45 Tryz.func45 (chain [.o 9 (.e (yA _ _):PV.le (.e (.sl true 2 7 fun i_ j_=>(iY x++iY y).getD (i_*7+j_) (.v (.bool false)))) (.e (ik [x,y]))),.c (yz _ _ af af:gV 86 [(ik [x,y])] _),tB 10 (by rw[hk];rfl:(!(x.all||y.all))=false),.c nv]<|rQ (gZ ie) (gZ (iN x y p)) (by rw[show iN x y p=ie by unfold iN;rw[aR hk]])) ah 
 .replace hk:(x.all||y.all)=false:=by simpa using hk
  have kz:x.all=false:=by cases h:x.all;rfl;rw[h]at hk;simp at hk
  have z8:y.all=false:=by cases h:y.all;rfl;rw[h]at hk;simp at hk
  obtain⟨v1,v2,v3⟩:=oW hx kz;obtain⟨v4,v5,v6⟩:=oW hy z8;exact tr true Tryz.call45 Tryz.func45 (chain [.o 9 (.e (yA _ _):PV.le (.e (.sl true 2 7 fun i_ j_=>(iY x++iY y).getD (i_*7+j_) (.v (.bool false)))) (.e (ik [x,y]))),.c (yz _ _ af af:gV 86 [(ik [x,y])] _),tB 10 (by rw[hk];rfl:(!(x.all||y.all))=true),.c (u5 _:gV 87 [(iP p)] _),tB 14 (oZ.2 ⟨ae,ae⟩:(lh (p:Int))=true),.c (TZ x y p 92 93 (fun a b up=>jh (ml a b) p up) (fun a b up=>jz (ml a b) p up) (fun a b ha hb=>Jk a b p (by rcases ha with rfl|rfl;exact v1;exact v2) (by rcases hb with rfl|rfl;exact v4;exact v5) il ic) (fun a b ha hb=>Jl a b p (by rcases ha with rfl|rfl;exact v1;exact v2) (by rcases hb with rfl|rfl;exact v4;exact v5) il ic) (fun a b up=>mi _ _ _ _ _ _ ae ae))]<|rQ (gZ (mf (fun a b up=>jh (ml a b) p up) (fun a b up=>jz (ml a b) p up) x y)) (gZ (iN x y p)) (by rw[show iN x y p=_ by unfold iN;rw[aQ (by rw[hk];decide)]];rfl)) ah 
theorem TY(x y:Iv)(p:Nat)(hx:x.ib)(hy:y.ib)(il:8<=p)(ic:p<=512):gV 239 [(gZ x),(gZ y),(iP p)] (gZ (jS x y p)):=by
 by_cases hk:(x.all||y.all)=true
 .exact tr true Tryz.call239 Tryz.func239 (chain [.o 9 (.e (yA _ _):PV.le (.e (.sl true 2 7 fun i_ j_=>(iY x++iY y).getD (i_*7+j_) (.v (.bool false)))) (.e (ik [x,y]))),.c (yz _ _ af af:gV 86 [(ik [x,y])] _),tB 10 (by rw[hk];rfl:(!(x.all||y.all))=false),.c nv]<|rQ (gZ ie) (gZ (jS x y p)) (by rw[show jS x y p=ie by unfold jS;rw[aR (by rw[hk];rfl)]])) ah 
 .replace hk:(x.all||y.all)=false:=by simpa using hk
  have kz:x.all=false:=by cases h:x.all;rfl;rw[h]at hk;simp at hk
  have z8:y.all=false:=by cases h:y.all;rfl;rw[h]at hk;simp at hk
  obtain⟨v1,v2,v3⟩:=oW hx kz;obtain⟨v4,v5,v6⟩:=oW hy z8;by_cases hs:lL y=0
  .exact tr true Tryz.call239 Tryz.func239 (chain [.o 9 (.e (yA _ _):PV.le (.e (.sl true 2 7 fun i_ j_=>(iY x++iY y).getD (i_*7+j_) (.v (.bool false)))) (.e (ik [x,y]))),.c (yz _ _ af af:gV 86 [(ik [x,y])] _),tB 10 (by rw[hk];rfl:(!(x.all||y.all))=true),.c (u5 _:gV 87 [(iP p)] _),tB 14 (oZ.2 ⟨ae,ae⟩:(lh (p:Int))=true),.c (IP y af),tB 20 (by rw[hs];rfl:((lL y)==0)=true),.c nv]<|rQ (gZ ie) (gZ (jS x y p)) (by rw[show jS x y p=ie by unfold jS;rw[aR (by rw[hk,aS hs];rfl)]])) ah 
  .obtain ⟨n1,n2⟩:=Xh hy hs
   exact tr true Tryz.call239 Tryz.func239 (chain [.o 9 (.e (yA _ _):PV.le (.e (.sl true 2 7 fun i_ j_=>(iY x++iY y).getD (i_*7+j_) (.v (.bool false)))) (.e (ik [x,y]))),.c (yz _ _ af af:gV 86 [(ik [x,y])] _),tB 10 (by rw[hk];rfl:(!(x.all||y.all))=true),.c (u5 _:gV 87 [(iP p)] _),tB 14 (oZ.2 ⟨ae,ae⟩:(lh (p:Int))=true),.c (IP y af),tB 20 (by simpa using hs:((lL y)==0)=false),.c (TZ x y p 236 237 (fun a b up=>kt a b p up) (fun a b up=>nc a b p up) (fun a b ha hb=>Wg a b p (by rcases ha with rfl|rfl;exact v1;exact v2) (by rcases hb with rfl|rfl;exact v4;exact v5) (by rcases hb with rfl|rfl;exact n1;exact n2) il ic) (fun a b ha hb=>Wh a b p (by rcases ha with rfl|rfl;exact v1;exact v2) (by rcases hb with rfl|rfl;exact v4;exact v5) (by rcases hb with rfl|rfl;exact n1;exact n2) il ic) (fun a b up=>abv a b up ae ae))]<|rQ (gZ (mf (fun a b up=>kt a b p up) (fun a b up=>nc a b p up) x y)) (gZ (jS x y p)) (by rw[show jS x y p=_ by unfold jS;rw[aQ (by rw[hk,aT hs];decide)]])) ah 
open Go.RowKit Fp Pu
theorem afL(d:RD)(h:d.Zero):gV 137 [(mF d)] (bP true):=by
 obtain⟨h1,h2,h3⟩:=h;exact tr true Tryz.call137 Tryz.func137 (chain [tB 4 (h1:d.neg=false),tB 10 (rM (by rw[h2];rfl):((d.L.length:Int)==0)=true),tB 15 (by rw[h3];rfl:(d.e==0)=true)]<|.nil) ah 
theorem T6(d:RD)(h:¬d.Zero):gV 137 [(mF d)] (bP false):=by
 by_cases h1:d.neg=true
 .exact tr true Tryz.call137 Tryz.func137 (chain [tB 4 (h1:d.neg=true)]<|.nil) ah 
 .replace h1:d.neg=false:=by simpa using h1
  by_cases h2:d.L=[]
  .have h3:¬d.e=0:=fun q=>h ⟨h1,h2,q⟩
   exact tr true Tryz.call137 Tryz.func137 (chain [tB 4 (h1:d.neg=false),tB 10 (rM (by rw[h2];rfl):((d.L.length:Int)==0)=true),tB 15 (by simpa using h3:(d.e==0)=false)]<|.nil) ah 
  .exact tr true Tryz.call137 Tryz.func137 (chain [tB 4 (h1:d.neg=false),tB 10 (nj (fun q=>h2 (gv.1 q)):((d.L.length:Int)==0)=false)]<|.nil) ah 
theorem afK(x:RI)(g:x.ji)(h:x.Ok):gV 84 [uh x] (bP true):=by
 have:=qM x.iv h.valid;rwa[<-IN,h.eq g]at this
theorem afI(x:RI)(g:x.ji)(h:¬x.Ok):gV 84 [(uh x)] (bP false):=by
 have ga:=g.lo;have gb:=g.hi;by_cases ha:x.all=true
 .by_cases h1:x.lo.Zero
  .have h2:¬x.hi.Zero:=fun q=>h (.inl ⟨ha,h1,q⟩)
   exact tr true Tryz.call84 Tryz.func84 (chain [tB 5 (ha:x.all=true),.c (afL _ h1:gV 137 [(mF x.lo)] _),.c (T6 _ h2:gV 137 [(mF x.hi)] _)]<|.nil) ah 
  .exact tr true Tryz.call84 Tryz.func84 (chain [tB 5 (ha:x.all=true),.c (T6 _ h1:gV 137 [(mF x.lo)] _)]<|.nil) ah 
 .replace ha:x.all=false:=by simpa using ha
  by_cases h1:x.lo.Ok
  .by_cases h2:x.hi.Ok
   .have h3:¬jm x.lo.dy x.hi.dy<=0:=fun q=>h (.inr ⟨ha,h1,h2,q⟩)
    have v1:=h1.valid;have v2:=h2.valid;have e1:uh x=gZ x.iv:=by rw[<-IN,show x.iv.raw=x by show RI.mk x.lo.dy.raw x.hi.dy.raw x.all=x;rw[h1.eq ga,h2.eq gb]]
    rw[e1];exact tr true Tryz.call84 Tryz.func84 (chain [tB 5 (ha:x.iv.all=false),.c (qg _ af:gV 68 [(gY x.iv.lo)] _),.c (qg _ af:gV 68 [(gY x.iv.hi)] _),.c (nS _ _ af af:gV 37 [(gY x.iv.lo),(gY x.iv.hi)] _),tB 30 (aT h3)]<|.nil) ah 
   .exact tr true Tryz.call84 Tryz.func84 (chain [tB 5 (ha:x.all=false),.c (A4 _ af true (by simp[h1]):gV 68 [(mF x.lo)] _),.c (A4 _ af false (by simp[h2]):gV 68 [(mF x.hi)] _)]<|.nil) ah 
  .exact tr true Tryz.call84 Tryz.func84 (chain [tB 5 (ha:x.all=false),.c (A4 _ af false (by simp[h1]):gV 68 [(mF x.lo)] _)]<|.nil) ah 
theorem afJ(x:RI)(g:x.ji):gV 84 [uh x] (bP (nm x)):=by
 by_cases h:x.Ok
 .rw [sd.2 h];exact afK x g h
 .rw [show nm x=false by simpa using fun q=>h (sd.1 q)];exact afI x g h
open Go.RowKit Fp Pu
abbrev ki(xs:List Iv):Nat->Nat->E:=fun i j=>(iY (xs.getD i ie)).getD j .any
theorem C1(x:Iv)(j:Nat)(hj:j<7):((iY x).getD j .any).nr 2=true:=by
 rcases j with _|_|_|_|_|_|_|j
 all_goals first|rfl|omega
theorem afQ{T n:Nat}{xs:List Iv}{y:Iv}(hn:n=xs.length):
 Bx.le (.row true T (n+[y].length) 7 fun i j=>if i<n then ki xs i j else(E.lZ (ik [y])) (i-n) j) (.row true T (xs++[y]).length 7 (ki (xs++[y]))):=by
 subst hn;refine .row aj fun i j hi hj=>⟨.iS ?_,C1 _ _ hj⟩
 by_cases h:i<xs.length
 .rw [aR h]
  show(iY (xs.getD i ie)).getD j .any=(iY ((xs++[y]).getD i ie)).getD j .any;congr 2;simp[aW,en h]
 .have oL:i=xs.length:=by simp at hi;omega
  subst oL;rw[aQ h,cT];show(iY y).getD j .any=(iY ((xs++[y]).getD xs.length ie)).getD j .any;congr 2;simp[aW]
theorem th{α:Type}(y:α):[y].length=1:=rfl
theorem NN{n i:Nat}{F:Nat->Iv}(h:i<n):((List.range n).map F).getD i ie=F i:=by
 simp[aW,h]
end Go.Proofs.YtdgnpeddgdclhaaGreatDoor
namespace Go.Proofs.YtdgnpeddgdclhaaGreatDoor.Fp
section
variable {a b:Dy} {k:Int}
end
theorem adW{m gm p:Nat}{e ge K:Int}(hp:1<=p)(hg:ia gm<=p)(pO:-16384<=ge)(k1:K<=e)(k2:K<=ge)
 (h:gm*2^(ge-K).toNat<=m*2^(e-K).toNat):gm*2^(ge-K).toNat<=kD m e false p false*2^(e+ja m e p-K).toNat:=by
 have hq:kD m e false p false=m/2^ja m e p:=by unfold kD;simp
 rw[hq];have hm:=bU m (2^ja m e p);have hr:=bg m (aY (n:=ja m e p) (ag:0<2));obtain⟨k,hk⟩:∃ k,k=ja m e p:=⟨_,rfl⟩
 rw[<-hk]at hm hr ⊢;have e1:(e+(k:Int)-K).toNat=k+(e-K).toNat:= ae ;rw[e1,aV];generalize hE:2^(e-K).toNat=E at *
 have Lt:0<E:=by rw[<-hE];exact aY ag 
 have hmE:m*E<(m/2^k+1)*(2^k*E):=by
  rw[<-bc];refine cC ?_ Lt;rw[bK,bJ,a7];omega
 by_cases hc:e+k<=ge
 .
  have e2:(ge-K).toNat=(ge-(e+k)).toNat+(k+(e-K).toNat):= ae ;rw[e2,aV,aV 2 k,hE]at h ⊢;rw[<-bc]at h ⊢;generalize gm*2^(ge-(e+k)).toNat=g at *
  have:g<m/2^k+1:=by
   apply bE;intro h';have:=bC (2^k*E) (show m/2^k+1<=g by omega);omega
  exact bC _ ae 
 .by_cases qV:k=0
  .subst qV
   rw[bN,dC,bJ];exact h
  .
   have hb:(ia m:Int)-p=k:=by unfold ja at hk;omega
   have Ey:m≠0:=by intro h0;rw[h0]at hb;simp[ia]at hb;omega
   have h1:=rj Ey;have h2:2^(ia m-1-k)<=m/2^k:=by
    rw[cL (aY ag),<-aV];exact aX (bh ag (by have:=mR Ey;omega)) h1
   have h3:gm<2^p:=kN.1 hg;refine aX (bC _ (cW h3)) (aX ?_ (bC _ h2));rw[<-hE,<-aV,<-aV,<-aV];exact bh ag ae 
theorem R3{m gm p:Nat}{e ge K:Int}(hp:1<=p)(hg:ia gm<=p)(pO:-16384<=ge)(k1:K<=e)(k2:K<=ge)
 (h:m*2^(e-K).toNat<=gm*2^(ge-K).toNat):kD m e false p true*2^(e+ja m e p-K).toNat<=gm*2^(ge-K).toNat:=by
 have Tc:kD m e false p false=m/2^ja m e p:=by unfold kD;simp
 have CR:kD m e false p true=m/2^ja m e p+if m%2^ja m e p≠0 then 1 else 0:=by unfold kD;simp
 have hm:=bU m (2^ja m e p);obtain⟨k,hk⟩:∃ k,k=ja m e p:=⟨_,rfl⟩
 rw[CR];rw[<-hk]at hm ⊢;have e1:(e+(k:Int)-K).toNat=k+(e-K).toNat:= ae ;rw[e1,aV];generalize hE:2^(e-K).toNat=E at *
 have Lt:0<E:=by rw[<-hE];exact aY ag 
 by_cases hr:m%2^k=0
 .rw [aQ ae,bt,<-bc]
  refine aX (fJ ?_) h;congr 1;rw[a7];omega
 .rw [aR hr]
  have qV:k≠0:=by intro h0;rw[h0,bN,cH]at hr;exact hr rfl
  have iD:m/2^k*(2^k*E)<gm*2^(ge-K).toNat:=by
   refine bD ?_ h;rw[<-bc];refine cC ?_ Lt;rw[a7];omega
  by_cases hc:e+k<=ge
  .have e2:(ge-K).toNat=(ge-(e+k)).toNat+(k+(e-K).toNat):= ae 
   have e3:gm*2^(ge-K).toNat=gm*2^(ge-(e+k)).toNat*(2^k*E):=by rw[e2,aV,aV 2 k,hE,bc]
   rw[e3]at iD ⊢;generalize gm*2^(ge-(e+k)).toNat=g at *
   have:m/2^k<g:=am9 iD;exact bC _ this
  .
   exfalso;have hb:(ia m:Int)-p=k:=by unfold ja at hk;omega
   have Ey:m≠0:=by intro h0;rw[h0]at hr;simp at hr
   have h1:=rj Ey;have po:=mR Ey;have h3:gm<2^p:=kN.1 hg;have h4:gm*2^(ge-K).toNat<=2^(ia m-1)*E:=by
    refine aX (bC _ (cW h3)) ?_;rw[<-hE,<-aV,<-aV];exact bh ag ae 
   have h5:2^(ia m-1-k)<=m/2^k:=by
    rw[cL (aY ag),<-aV];exact aX (bh ag ae) h1
   have h6:2^(ia m-1)*E<=m/2^k*(2^k*E):=by
    rw[<-bc];refine bC _ ?_;have:=bC (2^k) h5;rw[<-aV]at this;exact aX (bh ag ae) this
   omega
def P2(k:Int):Rat:=(2:Rat)^k
theorem mY(k:Int):0<P2 k:=Rat.zpow_pos ag 
theorem qe(a b:Int):P2 (a+b)=P2 a*P2 b:=Rat.zpow_add ag a b
theorem uA(n:Nat):P2 (n:Int)=((2^n:Nat):Rat):=by unfold P2;rw[Rat.zpow_natCast];simp
theorem J3:P2 0=1:=by have:=uA 0;simpa using this
theorem DL{e k:Int}(h:k<=e):P2 e=((2^(e-k).toNat:Nat):Rat)*P2 k:=by
 rw[<-uA,<-qe];congr 1;omega
theorem u9{x y:Rat}(k:Int):x*P2 k<=y*P2 k↔x<=y:=
 ⟨fun h=>ew h (mY k),fun h=>b8 h (bA (mY k))⟩
theorem r8{m n:Nat}{e f K:Int}(h1:K<=e)(h2:K<=f):(m:Rat)*P2 e<=(n:Rat)*P2 f↔m*2^(e-K).toNat<=n*2^(f-K).toNat:=by
 rw[DL h1,DL h2,<-dZ,<-dZ,u9,<-cO,<-cO,cX]
def Dy.q(d:Dy):Rat:=((d.num d.e:Int):Rat)*P2 d.e
theorem xr{d:Dy}{k:Int}(h:nG d k):d.q=((d.num k:Int):Rat)*P2 k:=by
 unfold Dy.q;rcases h with h|h
 .rw [vd h,vd h];simp
 .rw [I6 h (bY _),DL h,<-dZ,Rat.intCast_mul,dI]
theorem o0(a b:Dy):jm a b<=0↔a.q<=b.q:=by
 obtain⟨k,ka,kb⟩:∃ k:Int,k<=a.e/\k<=b.e:=⟨min a.e b.e,ae,ae⟩
 rw[oh (.inr ka) (.inr kb),xr (.inr ka),xr (.inr kb),u9,fM]
theorem NC(a b:Dy):(iI a b).q=a.q+b.q:=by
 obtain⟨k,ka,kb⟩:∃ k:Int,k<=a.e/\k<=b.e:=⟨min a.e b.e,ae,ae⟩
 rw[xr (Gt (.inr ka) (.inr kb)),xr (.inr ka),xr (.inr kb),JG (.inr ka) (.inr kb),Rat.intCast_add,Rat.add_mul]
theorem oE(a:Dy):(iF a).q = -a.q:=by
 rw[xr (DN (.inr (bY a.e))),Fo,fN,fO];rfl
theorem qF(s:Bool)(m:Nat)(e:Int):(canon s m e).q=if s then -((m:Rat)*P2 e)else(m:Rat)*P2 e:=by
 rw[xr (zf (bY e)),BH (bY e)];have:(e-e).toNat=0:= ae ;rw[this];cases s<;>simp[fN,fO,dI]
theorem ql(a:Dy):a.q=if a.neg then -((a.m:Rat)*P2 a.e)else(a.m:Rat)*P2 a.e:=by
 unfold Dy.q Dy.num Dy.jQ;have:(a.e-a.e).toNat=0:= ae ;rw[this];cases a.neg<;>simp[fN,fO,dI]
theorem Di(a b:Dy):(kI a b).q=a.q*b.q:=by
 unfold kI;rw[qF,ql a,ql b,qe,cO];cases a.neg<;>cases b.neg<;>simp<;>grind
theorem qY:jx.q=0:=by rw[ql];simp[jx]
theorem Jf{a b:Dy}(ha:a.lG)(hb:b.lG)(h:a.q=b.q):a=b:=by
 obtain⟨k,ka,kb⟩:∃ k:Int,k<=a.e/\k<=b.e:=⟨min a.e b.e,ae,ae⟩
 refine KU ha hb (.inr ka) (.inr kb) ?_;rw[xr (.inr ka),xr (.inr kb)]at h;have h1:=(u9 (x:=((a.num k:Int):Rat)) (y:=((b.num k:Int):Rat)) k).1 (by rw[h];exact b9);have h2:=(u9 (x:=((b.num k:Int):Rat)) (y:=((a.num k:Int):Rat)) k).1 (by rw[h];exact b9);rw[fM]at h1 h2;omega
theorem xt(n:Int):(jd n).q=(n:Rat):=by
 unfold jd;rw[xr (k:=0) (J8 (bY 0)),Ng (bY 0),J3];simp
theorem yM(d:Dy):0<=(kY d).q/\d.q<=(kY d).q /\ -d.q<=(kY d).q/\((kY d).q=d.q\/(kY d).q = -d.q):=by
 have h:(kY d).q=(d.m:Rat)*P2 d.e:=by rw[ql];rfl
 have h0:0<=(d.m:Rat)*P2 d.e:=bM (cF) (bA (mY _));rw[h,ql d];cases d.neg<;>simp<;>grind
theorem qP(d:Dy):(0<d.iK↔0<d.q)/\(d.iK<0↔d.q<0):=by
 have h:=mY d.e;have hm:d.m≠0->0<(d.m:Rat)*P2 d.e:=fun h0=>dJ (fl.2 ae) h
 rw[ql];unfold Dy.iK;by_cases h0:d.m=0
 .simp [h0]
 .have:=hm h0
  rw[aQ h0];cases d.neg<;>simp<;>grind
theorem FD(a b:Dy):a.q<=(iO a b).q/\b.q<=(iO a b).q/\((iO a b).q=a.q\/(iO a b).q=b.q):=
 ⟨(o0 _ _).1 (C9 a b),(o0 _ _).1 (UF a b),by unfold iO;split;exact .inr rfl;exact .inl rfl⟩
theorem BL(a b:Dy):(iU a b).q<=a.q/\(iU a b).q<=b.q/\((iU a b).q=a.q\/(iU a b).q=b.q):=
 ⟨(o0 _ _).1 (E5 a b),(o0 _ _).1 (UI a b),by unfold iU;split;exact .inr rfl;exact .inl rfl⟩
def GM(p:Nat)(g:Rat):Prop:=∃ (m:Nat) (e:Int),ia m<=p /\ -16384<=e/\(ia m:Int)+e<=16384/\g=(m:Rat)*P2 e
def G(p:Nat)(g:Rat):Prop:=GM p g\/GM p (-g)
theorem GM.Fm{p:Nat}{g:Rat}(h:GM p g):0<=g:=by
 obtain⟨m,e,_,_,_,rfl⟩:=h;exact bM (cF) (bA (mY _))
theorem wF(p:Nat):GM p 0:=⟨0,0,by simp[qR],ae,by simp[qR],aj⟩
theorem G.neg{p:Nat}{g:Rat}(h:G p g):G p (-g):=by
 rcases h with h|h
 .exact .inr (by rw[fm];exact h)
 .exact .inl h
theorem G.pos{p:Nat}{g:Rat}(h:G p g)(h0:0<=g):GM p g:=by
 rcases h with h|h
 .exact h
 .have:=h.Fm
  have:g=0:= aq ;rw[this];exact wF p
theorem P4(k:Nat):ia (2^k)=k+1:=uD (aU _) (et ag ae)
theorem uE:ia 1=1:=P4 0
section
variable {m p:Nat} {e:Int}
theorem X4(hp:1<=p)(ic:p<=4096)(ho:lN m e false p false=true):
 GM p (((2^p-1:Nat):Rat)*P2 (16384-p))/\((2^p-1:Nat):Rat)*P2 (16384-p)<=(m:Rat)*P2 e/\∀ g,GM p g->g<=((2^p-1:Nat):Rat)*P2 (16384-p):=by
 have vZ:2<=2^p:=by
  have:=bh (n:=2) ag hp;omega
 have hb:ia (2^p-1)=p:=by
  obtain⟨j,rfl⟩:∃ j,p=j+1:=⟨p-1,ae⟩
  have h2:2^(j+1)=2^j*2:=aZ _ _;have h3:=aY (n:=j) (ag:0<2);exact uD ae ae 
 refine⟨⟨_,_,fJ hb,ae,ae,rfl⟩,?_,?_⟩
 .obtain ⟨c1,c2⟩:=GW m e p
  unfold lN at ho;simp only[bB,bW]at ho;obtain⟨o1,o2⟩:=ho;have hq:=rj o1;have po:=mR o1;obtain⟨K,k1,k2⟩:∃ K:Int,K<=e/\K<=16384-p:=⟨min e (16384-p),ae,ae⟩
  rw[r8 k2 k1];have h1:2^(ia (kD m e false p false)-1)*2^ja m e p<=m:=aX (bC _ hq) c1;have h2:=bC (2^(e-K).toNat) h1;rw[<-aV,<-aV]at h2;refine aX (bC _ (dj _ _)) (aX ?_ h2);rw[<-aV];exact bh ag ae 
 .rintro g ⟨gm,ge,b1,b2,b3,rfl⟩
  by_cases hc:ge<=16384-p
  .have:gm<2^p:=kN.1 b1
   rw[r8 (K:=ge) (bY _) hc];have e0:(ge-ge).toNat=0:= ae ;rw[e0,bN,bO];exact aX (show gm<=2^p-1 by omega) (fU _ (aY ag))
  .rw [r8 (K:=16384-p) ae (bY _)]
   have e0:((16384:Int)-p-(16384-p)).toNat=0:= ae ;rw[e0,bN,bO];have h1:gm<2^(16384-ge).toNat:=by
    by_cases h0:gm=0
    .rw [h0];exact aY ag 
    .exact kN.1 ae 
   have h2:=cC h1 (aY (n:=(ge-(16384-p)).toNat) (ag:0<2));by_cases hg:ge<=16384
   .rw [<-aV,show(16384-ge).toNat+(ge-(16384-(p:Int))).toNat=p by omega]at h2
    omega
   .have:gm=0:=by
     rw[show(16384-ge).toNat=0 by omega]at h1;simpa using h1
    rw[this,ch];omega
theorem X3(hp:1<=p)(ho:¬lN m e false p false=true):
 GM p (((kD m e false p false:Nat):Rat)*P2 (e+ja m e p))/\((kD m e false p false:Nat):Rat)*P2 (e+ja m e p)<=(m:Rat)*P2 e /\
 ∀ g,GM p g->g<=(m:Rat)*P2 e->g<=((kD m e false p false:Nat):Rat)*P2 (e+ja m e p):=by
 obtain⟨c1,c2⟩:=GW m e p;have hk:-16384<=e+(ja m e p:Int):=by unfold ja;omega
 refine⟨?_,?_,?_⟩
 .by_cases h0:kD m e false p false=0
  .rw [h0];simpa using wF p
  .have hq:kD m e false p false<2^p:=by
    have:=QU m e p;unfold kD;simpa using this
   unfold lN at ho;simp only[cV,h0,ep,fI,ev,bW]at ho;exact⟨_,_,kN.2 hq,hk,ae,rfl⟩
 .rw [r8 (K:=e) ae (bY _)]
  rw[show(e-e).toNat=0 by omega,show(e+(ja m e p:Int)-e).toNat=ja m e p by omega,bN,bO];exact c1
 .rintro g ⟨gm,ge,b1,b2,b3,rfl⟩ h
  obtain⟨K,k1,k2⟩:∃ K:Int,K<=e/\K<=ge:=⟨min e ge,ae,ae⟩
  rw[r8 k2 k1]at h;rw[r8 (K:=K) k2 ae];exact adW hp b1 b2 k1 k2 h
theorem Qo(hp:1<=p)(ho:lN m e false p true=true)(g:Rat)(hg:GM p g):¬(m:Rat)*P2 e<=g:=by
 obtain⟨gm,ge,b1,b2,b3,rfl⟩:=hg;intro h;obtain⟨K,k1,k2⟩:∃ K:Int,K<=e/\K<=ge:=⟨min e ge,ae,ae⟩
 rw[r8 k1 k2]at h;have h:=R3 hp b1 b2 k1 k2 h;unfold lN at ho;simp only[bB,bW]at ho;obtain⟨o1,o2⟩:=ho;have hq:=rj o1;have po:=mR o1;have h3:gm<2^ia gm:=oM gm;have h4:=cC h3 (aY (n:=(ge-K).toNat) (ag:0<2));have h5:=bC (2^(e+(ja m e p:Int)-K).toNat) hq;rw[<-aV]at h4 h5;have h6:2^(ia gm+(ge-K).toNat)<=2^(ia (kD m e false p true)-1+(e+(ja m e p:Int)-K).toNat):=bh ag ae;omega
theorem Qn(hp:1<=p)(ho:¬lN m e false p true=true):
 GM p (((kD m e false p true:Nat):Rat)*P2 (e+ja m e p))/\(m:Rat)*P2 e<=((kD m e false p true:Nat):Rat)*P2 (e+ja m e p) /\
 ∀ g,GM p g->(m:Rat)*P2 e<=g->((kD m e false p true:Nat):Rat)*P2 (e+ja m e p)<=g:=by
 obtain⟨c1,c2⟩:=GW m e p;have hk:-16384<=e+(ja m e p:Int):=by unfold ja;omega
 refine⟨?_,?_,?_⟩
 .by_cases h0:kD m e false p true=0
  .rw [h0];simpa using wF p
  .unfold lN at ho
   simp only[cV,h0,ep,fI,ev,bW]at ho;rcases Nat.lt_or_eq_of_le (QH m e false p true)with hq|hq
   .exact ⟨_,_,kN.2 hq,hk,ae,rfl⟩
   .rw [hq]at ho ⊢
    rw[P4]at ho;refine⟨1,p+(e+ja m e p),by rw[uE];exact hp,ae,by rw[uE];omega,?_⟩;rw[qe (p:Int),uA p,show((1:Nat):Rat)=1 from rfl,ey]
 .rw [r8 (K:=e) (bY _) ae]
  rw[show(e-e).toNat=0 by omega,show(e+(ja m e p:Int)-e).toNat=ja m e p by omega,bN,bO];exact c2
 .rintro g ⟨gm,ge,b1,b2,b3,rfl⟩ h
  obtain⟨K,k1,k2⟩:∃ K:Int,K<=e/\K<=ge:=⟨min e ge,ae,ae⟩
  rw[r8 k1 k2]at h;rw[r8 (K:=K) ae k2];exact R3 hp b1 b2 k1 k2 h
end
def Dn(p:Nat)(v:Rat)(D:Dy)(E:Int):Prop:=(E=0->G p D.q/\D.q<=v)/\∀ g,G p g->g<=v->E=0/\g<=D.q
def Up(p:Nat)(v:Rat)(D:Dy)(E:Int):Prop:=(E=0->G p D.q/\v<=D.q)/\∀ g,G p g->v<=g->E=0/\D.q<=g
theorem Dn.of{p:Nat}{v w:Rat}{D:Dy}{E:Int}(h:Dn p v D E)(k:∀ g,G p g->(g<=v↔g<=w)):Dn p w D E:=
 ⟨fun e=>⟨(h.1 e).1,(k _ (h.1 e).1).1 (h.1 e).2⟩,fun g hg hw=>h.2 g hg ((k g hg).2 hw)⟩
theorem Up.of{p:Nat}{v w:Rat}{D:Dy}{E:Int}(h:Up p v D E)(k:∀ g,G p g->(v<=g↔w<=g)):Up p w D E:=
 ⟨fun e=>⟨(h.1 e).1,(k _ (h.1 e).1).1 (h.1 e).2⟩,fun g hg hw=>h.2 g hg ((k g hg).2 hw)⟩
theorem D0(neg:Bool)(m:Nat)(e:Int){p:Nat}(hp:1<=p)(ic:p<=4096):Dn p (canon neg m e).q (jP neg m e false p false) (jG neg m e false p false):=by
 have hv:0<=(m:Rat)*P2 e:=bM (cF) (bA (mY _));rw[qF];cases neg
 .
  have hE:jG false m e false p false=0:=by unfold jG;simp
  rw[hE];unfold jP;simp only[bne_self_eq_false,bq,a6];by_cases ho:lN m e false p false=true
  .obtain ⟨t1,t2,t3⟩:=X4 hp ic ho
   rw[aR ho];(first|unfold Dn|unfold Up);rw[qF];simp only[bq,a6];refine⟨fun _=>⟨.inl t1,t2⟩,fun g hg hle=>⟨trivial,?_⟩⟩;by_cases h0:0<=g
   .exact t3 g (hg.pos h0)
   .have:=t1.Fm;grind
  .obtain ⟨t1,t2,t3⟩:=X3 hp ho
   rw[aQ ho];(first|unfold Dn|unfold Up);rw[qF];simp only[bq,a6];refine⟨fun _=>⟨.inl t1,t2⟩,fun g hg hle=>⟨trivial,?_⟩⟩;by_cases h0:0<=g
   .exact t3 g (hg.pos h0) hle
   .have:=t1.Fm;grind
 .unfold jP jG
  simp only[Bool.bne_false,Bool.and_true,bk];by_cases ho:lN m e false p true=true
  .rw [aR ho,aR ho]
   refine⟨fun h=>by simp at h,fun g hg hle=>?_⟩;exact absurd (show(m:Rat)*P2 e <= -g by grind) (Qo hp ho _ (hg.neg.pos aq))
  .obtain ⟨t1,t2,t3⟩:=Qn hp ho
   rw[aQ ho,aQ ho];(first|unfold Dn|unfold Up);rw[qF];simp only[bk];refine⟨fun _=>⟨.inr (by rw[fm];exact t1),aq⟩,fun g hg hle=>⟨trivial,?_⟩⟩;have:=t3 (-g) (hg.neg.pos aq) aq 
   grind
theorem D1(neg:Bool)(m:Nat)(e:Int){p:Nat}(hp:1<=p)(ic:p<=4096):Up p (canon neg m e).q (jP neg m e false p true) (jG neg m e false p true):=by
 have hv:0<=(m:Rat)*P2 e:=bM (cF) (bA (mY _));rw[qF];cases neg
 .unfold jP jG
  simp only[Bool.bne_true,dU,Bool.and_true,bk,bq,a6];by_cases ho:lN m e false p true=true
  .rw [aR ho,aR ho]
   refine⟨fun h=>by simp at h,fun g hg hle=>?_⟩;exact absurd hle (Qo hp ho _ (hg.pos aq))
  .obtain ⟨t1,t2,t3⟩:=Qn hp ho
   rw[aQ ho,aQ ho];(first|unfold Dn|unfold Up);rw[qF];simp only[bq,a6];exact⟨fun _=>⟨.inl t1,t2⟩,fun g hg hle=>⟨trivial,t3 g (hg.pos aq) hle⟩⟩
 .have hE:jG true m e false p true=0:=by unfold jG;simp
  rw[hE];unfold jP;simp only[bne_self_eq_false,bq,a6,bk];by_cases ho:lN m e false p false=true
  .obtain ⟨t1,t2,t3⟩:=X4 hp ic ho
   rw[aR ho];(first|unfold Dn|unfold Up);rw[qF];simp only[bk];refine⟨fun _=>⟨.inr (by rw[fm];exact t1),aq⟩,fun g hg hle=>⟨trivial,?_⟩⟩;by_cases h0:0 <= -g
   .have:=t3 (-g) (hg.neg.pos h0);grind
   .have:=t1.Fm;grind
  .obtain ⟨t1,t2,t3⟩:=X3 hp ho
   rw[aQ ho];(first|unfold Dn|unfold Up);rw[qF];simp only[bk];refine⟨fun _=>⟨.inr (by rw[fm];exact t1),aq⟩,fun g hg hle=>⟨trivial,?_⟩⟩;by_cases h0:0 <= -g
   .have:=t3 (-g) (hg.neg.pos h0) aq;grind
   .have:=t1.Fm;grind
theorem wq{d:Dy}(hd:d.lG){p:Nat}(hp:1<=p)(ic:p<=4096):Dn p d.q (jh d p false) (jz d p false):=by
 have:=D0 d.neg d.m d.e hp ic;rwa[hd.Cf]at this
theorem wu{d:Dy}(hd:d.lG){p:Nat}(hp:1<=p)(ic:p<=4096):Up p d.q (jh d p true) (jz d p true):=by
 have:=D1 d.neg d.m d.e hp ic;rwa[hd.Cf]at this
theorem Ll{N p:Nat}{e:Int}(hb:p<ia N){g:Rat}(hg:GM p g):g<=(N:Rat)*P2 e\/((N+1:Nat):Rat)*P2 e<=g:=by
 obtain⟨gm,ge,b1,b2,b3,rfl⟩:=hg;by_cases hc:e<=ge
 .rw [r8 (K:=e) hc (bY _),r8 (K:=e) (bY _) hc,show(e-e).toNat=0 by omega]
  omega
 .left
  rw[r8 (K:=ge) (bY _) ae,show(ge-ge).toNat=0 by omega,bN,bO];have h1:gm<2^p:=kN.1 b1;have h2:2^p<=N:=r7.1 hb;exact aX (cW (bD h1 h2)) (fU _ (aY ag))
theorem PU{N p:Nat}{e:Int}(hb:p<ia N){x y:Rat}(x1:(N:Rat)*P2 e<x)(x2:x<((N+1:Nat):Rat)*P2 e)(y1:(N:Rat)*P2 e<y)(y2:y<((N+1:Nat):Rat)*P2 e){g:Rat}(hg:G p g):
 (g<=x↔g<=y)/\(x<=g↔y<=g)/\(g <= -x↔g <= -y)/\(-x<=g ↔ -y<=g):=by
 have hv:0<=(N:Rat)*P2 e:=bM (cF) (bA (mY _));have hG:∀ g,G p g->g<=(N:Rat)*P2 e\/((N+1:Nat):Rat)*P2 e<=g:=by
  intro g hg;by_cases h0:0<=g
  .exact Ll hb (hg.pos h0)
  .left;grind
 have h1:=hG g hg;have h2:=hG (-g) hg.neg;generalize (N:Rat)*P2 e=A at *
 generalize ((N+1:Nat):Rat)*P2 e=B at *
 refine⟨?_,?_,?_,?_⟩<;>constructor<;>intro h<;>grind
theorem Cm{N p:Nat}(E:Int)(hb:p<ia N)(neg up:Bool):jP neg N E true p up=jP neg (2*N+1) (E-1) false p up/\jG neg N E true p up=jG neg (2*N+1) (E-1) false p up:=by
 have h1:(2*N+1)/2^1=N:= ae ;have h:=GV (N:=2*N+1) (E:=E-1) (more:=false) (d:=1) (p:=p) neg up (by rw[h1];exact hb);have h2:decide ((2*N+1)%2^1≠0)=true:= aj ;rw[h1,h2,show E-1+((1:Nat):Int)=E by omega]at h;exact h
theorem KM{a b:Dy}(b0:b.m≠0){p:Nat}(hp:1<=p)(ic:p<=4096):Dn p (a.q/b.q) (kt a b p false) (nc a b p false)/\Up p (a.q/b.q) (kt a b p true) (nc a b p true):=by
 by_cases a0:a.m=0
 .have hq:a.q=0:=by rw[ql,a0];simp
  have h0:(0:Rat)/b.q=0:=by rw[cA,fP]
  unfold kt nc;rw[hq,h0,aR a0,aR a0,aR a0,aR a0];have hz:G p 0:=.inl (wF p);exact⟨⟨fun _=>⟨by rw[qY];exact hz,by rw[qY];exact b9⟩,fun g _ h=>⟨rfl,by rw[qY];exact h⟩⟩,⟨fun _=>⟨by rw[qY];exact hz,by rw[qY];exact b9⟩,fun g _ h=>⟨rfl,by rw[qY];exact h⟩⟩⟩
 .have hb:=KN a0 b0 p 2 ag 
  unfold kt nc;rw[aQ a0,aQ a0,aQ a0,aQ a0];generalize hk:kn a b p 2=k at *
  generalize hs:(a.neg != b.neg)=s;generalize hE:a.e-b.e-(k:Int)=E0;have hB:(0:Rat)<(b.m:Rat):=fl.2 ae;have Sd:=mY b.e;have hP:=mY E0;obtain⟨w,hw⟩:∃ w:Rat,w=(a.m:Rat)*P2 a.e/((b.m:Rat)*P2 b.e):=⟨_,rfl⟩
  have Tv:w*((b.m:Rat)*P2 b.e)=(a.m:Rat)*P2 a.e:=by
   have:(b.m:Rat)*P2 b.e≠0:=by have:=dJ hB Sd;grind
   rw[hw];exact dm this
  have kW:a.q/b.q=if s then -w else w:=by
   have hbq:b.q≠0:=by
    have:=dJ hB Sd;rw[ql b];cases b.neg<;>simp<;>grind
   have hq:(if s then -w else w)*b.q=a.q:=by
    rw[ql a,ql b,<-hs,<-Tv];cases a.neg<;>cases b.neg<;>simp<;>grind
   rw[<-hq,amY hbq]
  have LS:=bU (a.m*2^k) b.m;have hr:=bg (a.m*2^k) (show 0<b.m by omega);generalize hN:a.m*2^k/b.m=N at *
  generalize hR:a.m*2^k%b.m=R at *
  have aeo:(b.m:Rat)*(N:Rat)+(R:Rat)=(a.m:Rat)*((2^k:Nat):Rat):=by rw[<-cO,<-cO,<-dK,LS]
  have hae:P2 a.e=((2^k:Nat):Rat)*P2 b.e*P2 E0:=by rw[<-uA,<-qe,<-qe];congr 1;omega
  have ID:w*(b.m:Rat)=((b.m:Rat)*(N:Rat)+(R:Rat))*P2 E0:=by
   have:w*(b.m:Rat)*P2 b.e=((b.m:Rat)*(N:Rat)+(R:Rat))*P2 E0*P2 b.e:=by
    rw[aeo,dZ,Tv,hae];grind
   have ks:P2 b.e≠0:= aq ;have h2:=congrArg (· / P2 b.e) this;simp only[amY ks]at h2;exact h2
  by_cases h0:R=0
  .have IC:w=(N:Rat)*P2 E0:=by
    rw[h0]at ID;have ks:(b.m:Rat)≠0:= aq ;have h2:w*(b.m:Rat)=((N:Rat)*P2 E0)*(b.m:Rat):=by rw[ID];simp;grind
    have h3:=congrArg (· / (b.m:Rat)) h2;simp only[amY ks]at h3;exact h3
   have hc:a.q/b.q=(canon s N E0).q:=by rw[kW,qF,IC]
   rw[hc,aT (by simpa using h0)];exact⟨D0 _ _ _ hp ic,D1 _ _ _ hp ic⟩
  .have uR:(0:Rat)<(R:Rat):=fl.2 ae 
   have hRb:(R:Rat)<(b.m:Rat):=Rat.natCast_lt_natCast.2 hr;have w1:(N:Rat)*P2 E0<w:=by
    apply ana (c:=(b.m:Rat)) _ (bA hB);rw[ID];have:=dJ uR hP
    grind
   have w2:w<((N+1:Nat):Rat)*P2 E0:=by
    apply ana (c:=(b.m:Rat)) _ (bA hB);rw[ID,dK];have:=dJ (show(0:Rat)<(b.m:Rat)-(R:Rat)by grind) hP;simp
    grind
   have hh:P2 E0=2*P2 (E0-1):=by
    rw[DL (show E0-1<=E0 by omega),show(E0-(E0-1)).toNat=1 by omega];simp
   have v1:(N:Rat)*P2 E0<((2*N+1:Nat):Rat)*P2 (E0-1):=by
    have:=mY (E0-1);rw[hh,dK,cO];simp;grind
   have v2:((2*N+1:Nat):Rat)*P2 (E0-1)<((N+1:Nat):Rat)*P2 E0:=by
    have:=mY (E0-1);rw[hh,dK,cO,dK];simp;grind
   rw[aS (by simpa using h0),(Cm E0 hb s false).1,(Cm E0 hb s false).2,(Cm E0 hb s true).1,(Cm E0 hb s true).2,kW];have A:=D0 s (2*N+1) (E0-1) hp ic;have B:=D1 s (2*N+1) (E0-1) hp ic;rw[qF]at A B;refine⟨A.of fun g hg=>?_,B.of fun g hg=>?_⟩
   .obtain ⟨k1,k2,k3,k4⟩:=PU hb v1 v2 w1 w2 hg
    cases s
    .exact k1
    .exact k3
   .obtain ⟨k1,k2,k3,k4⟩:=PU hb v1 v2 w1 w2 hg
    cases s
    .exact k2
    .exact k4
def Iv.jX(x:Iv)(r:Rat):Prop:=x.all=true\/(x.lo.q<=r/\r<=x.hi.q)
def Sub(x y:Iv):Prop:=y.all=true\/(x.all=false/\y.lo.q<=x.lo.q/\x.hi.q<=y.hi.q)
theorem Sub.jX{x y:Iv}(h:Sub x y){r:Rat}(k:x.jX r):y.jX r:=by
 rcases h with h|⟨h1,h2,h3⟩
 .exact .inl h
 .rcases k with k|⟨k1,k2⟩
  .rw [h1]at k;cases k
  .exact .inr ⟨aq,aq⟩
theorem Sub.wh{x y:Iv}(h:Sub x y)(k:y.all=false):x.all=false/\y.lo.q<=x.lo.q/\x.hi.q<=y.hi.q:=by
 rcases h with h|h
 .rw [h]at k;cases k
 .exact h
theorem Iv.ib.q{x:Iv}(h:x.ib):x.lo.q<=x.hi.q:=by
 rcases h with⟨_,h2,h3⟩|⟨_,_,_,h⟩
 .rw [h2,h3];exact b9
 .exact (o0 _ _).1 h
theorem Iv.ib.xN{x:Iv}(h:x.ib):x.lo.lG/\x.hi.lG:=by
 rcases h with⟨_,h2,h3⟩|⟨_,h2,h3,_⟩
 .rw [h2,h3];exact⟨rm.canon,rm.canon⟩
 .exact ⟨h2.canon,h3.canon⟩
theorem Iv.ib.wV{x:Iv}(h:x.ib):x.jX x.lo.q:=.inr ⟨b9,h.q⟩
theorem Iv.ib.A9{x:Iv}(h:x.ib):x.jX x.hi.q:=.inr ⟨h.q,b9⟩
structure DJ(p:Nat)(S:Rat->Prop)(X:Iv):Prop where
 jX:∀ r,S r->X.jX r
 on:X.all=false->G p X.lo.q/\G p X.hi.q
 xj:∀ L U,G p L->G p U->(∀ r,S r->L<=r/\r<=U)->X.all=false/\L<=X.lo.q/\X.hi.q<=U
theorem Ka{x y:Iv}(hx:x.ib)(hy:y.ib)(xa:x.all=false)(ya:y.all=false){p:Nat}(hp:1<=p)(ic:p<=4096):
 DJ p (fun r=>∃ a b,x.jX a/\y.jX b/\r=a+b) (jj x y p):=by
 have A:=wq (AU hx.xN.1 hy.xN.1) hp ic;have B:=wu (AU hx.xN.2 hy.xN.2) hp ic;rw[NC]at A B;unfold jj kE;rw[xa,ya];simp only[gw,bq,a6];have jX:∀ r,(∃ a b,x.jX a/\y.jX b/\r=a+b)->x.lo.q+y.lo.q<=r/\r<=x.hi.q+y.hi.q:=by
  rintro r ⟨a,b,ha,hb,rfl⟩;rcases ha with ha|ha
  .rw [xa]at ha;cases ha
  .rcases hb with hb|hb
   .rw [ya]at hb;cases hb
   .grind
 have xj:∀ L U,G p L->G p U->(∀ r,(∃ a b,x.jX a/\y.jX b/\r=a+b)->L<=r/\r<=U) ->
  (jz (iI x.lo y.lo) p false=0/\L<=(jh (iI x.lo y.lo) p false).q)/\jz (iI x.hi y.hi) p true=0/\(jh (iI x.hi y.hi) p true).q<=U:=fun L U hL hU h=>
  ⟨A.2 L hL (h _ ⟨_,_,hx.wV,hy.wV,rfl⟩).1,B.2 U hU (h _ ⟨_,_,hx.A9,hy.A9,rfl⟩).2⟩
 split
 .rename_i he
  refine⟨fun _ _=>.inl rfl,fun h=>absurd h ag,fun L U hL hU h=>?_⟩;obtain⟨⟨e1,_⟩,e2,_⟩:=xj L U hL hU h;rcases he with he|he
  .exact absurd e1 he
  .exact absurd e2 he
 .rename_i he
  obtain⟨a1,a2⟩:=A.1 ae;obtain⟨b1,b2⟩:=B.1 ae;refine⟨fun r hr=>.inr ?_,fun _=>⟨a1,b1⟩,fun L U hL hU h=>?_⟩
  .obtain ⟨h1,h2⟩:=jX r hr
   exact⟨bH a2 h1,bH h2 b2⟩
  .obtain ⟨⟨_,e1⟩,_,e2⟩:=xj L U hL hU h
   exact⟨rfl,e1,e2⟩
theorem Gw{x y:Iv}(p:Nat)(h:x.all=true\/y.all=true):jj x y p=ie:=by
 unfold jj;rw[aR (by rcases h with h|h<;>rw[h]<;>simp)]
theorem xH{x y:Iv}(hx:x.ib)(hy:y.ib){p:Nat}(hp:1<=p)(ic:p<=4096){a b:Rat}(ha:x.jX a)(hb:y.jX b):(jj x y p).jX (a+b):=by
 cases xa:x.all
 .cases ya:y.all
  .exact (Ka hx hy xa ya hp ic).jX _ ⟨a,b,ha,hb,rfl⟩
  .rw [Gw p (.inr ya)];exact .inl rfl
 .rw [Gw p (.inl xa)];exact .inl rfl
theorem RO{p:Nat}{D:Dy->Dy->Bool->Dy}{E:Dy->Dy->Bool->Int}{f:Rat->Rat->Rat}{x y:Iv}{S:Rat->Prop}
 (hD:∀ a b,(a=x.lo\/a=x.hi)->(b=y.lo\/b=y.hi)->Dn p (f a.q b.q) (D a b false) (E a b false)/\Up p (f a.q b.q) (D a b true) (E a b true)/\S (f a.q b.q))
 (hS:∀ r,S r->(f x.lo.q y.lo.q<=r\/f x.lo.q y.hi.q<=r\/f x.hi.q y.lo.q<=r\/f x.hi.q y.hi.q<=r)/\(r<=f x.lo.q y.lo.q\/r<=f x.lo.q y.hi.q\/r<=f x.hi.q y.lo.q\/r<=f x.hi.q y.hi.q)):
 DJ p S (mf D E x y):=by
 obtain⟨a1,a2,a3⟩:=hD x.lo y.lo (.inl rfl) (.inl rfl);obtain⟨b1,b2,b3⟩:=hD x.lo y.hi (.inl rfl) (.inr rfl);obtain⟨c1,c2,c3⟩:=hD x.hi y.lo (.inr rfl) (.inl rfl);obtain⟨d1,d2,d3⟩:=hD x.hi y.hi (.inr rfl) (.inr rfl);have xj:∀ L U,G p L->G p U->(∀ r,S r->L<=r/\r<=U) ->
  ((E x.lo y.lo false=0/\L<=(D x.lo y.lo false).q)/\E x.lo y.lo true=0/\(D x.lo y.lo true).q<=U)/\((E x.lo y.hi false=0/\L<=(D x.lo y.hi false).q)/\E x.lo y.hi true=0/\(D x.lo y.hi true).q<=U) /\
  ((E x.hi y.lo false=0/\L<=(D x.hi y.lo false).q)/\E x.hi y.lo true=0/\(D x.hi y.lo true).q<=U)/\((E x.hi y.hi false=0/\L<=(D x.hi y.hi false).q)/\E x.hi y.hi true=0/\(D x.hi y.hi true).q<=U):=fun L U hL hU h=>
  ⟨⟨a1.2 L hL (h _ a3).1,a2.2 U hU (h _ a3).2⟩,⟨b1.2 L hL (h _ b3).1,b2.2 U hU (h _ b3).2⟩,⟨c1.2 L hL (h _ c3).1,c2.2 U hU (h _ c3).2⟩,⟨d1.2 L hL (h _ d3).1,d2.2 U hU (h _ d3).2⟩⟩
 unfold mf;split
 .rename_i he
  obtain⟨⟨e1,e2⟩,⟨e3,e4⟩,⟨e5,e6⟩,⟨e7,e8⟩⟩:=he;obtain⟨ga,la⟩:=a1.1 e1;obtain⟨gA,lA⟩:=a2.1 e2;obtain⟨gb,lb⟩:=b1.1 e3;obtain⟨gB,lB⟩:=b2.1 e4;obtain⟨gc,lc⟩:=c1.1 e5;obtain⟨gC,lC⟩:=c2.1 e6;obtain⟨gd,ld⟩:=d1.1 e7;obtain⟨gD,lD⟩:=d2.1 e8;obtain⟨m1,m2,m3⟩:=BL (D x.lo y.lo false) (D x.lo y.hi false);obtain⟨m4,m5,m6⟩:=BL (iU (D x.lo y.lo false) (D x.lo y.hi false)) (D x.hi y.lo false);obtain⟨m7,m8,m9⟩:=BL (iU (iU (D x.lo y.lo false) (D x.lo y.hi false)) (D x.hi y.lo false)) (D x.hi y.hi false);obtain⟨n1,n2,n3⟩:=FD (D x.lo y.lo true) (D x.lo y.hi true);obtain⟨n4,n5,n6⟩:=FD (iO (D x.lo y.lo true) (D x.lo y.hi true)) (D x.hi y.lo true);obtain⟨n7,n8,n9⟩:=FD (iO (iO (D x.lo y.lo true) (D x.lo y.hi true)) (D x.hi y.lo true)) (D x.hi y.hi true);generalize (iU (D x.lo y.lo false) (D x.lo y.hi false))=u1 at *
  generalize (iU u1 (D x.hi y.lo false))=u2 at *
  generalize (iU u2 (D x.hi y.hi false))=u3 at *
  generalize (iO (D x.lo y.lo true) (D x.lo y.hi true))=v1 at *
  generalize (iO v1 (D x.hi y.lo true))=v2 at *
  generalize (iO v2 (D x.hi y.hi true))=v3 at *
  refine⟨fun r hr=>.inr ?_,fun _=>⟨?_,?_⟩,fun L U hL hU h=>⟨rfl,?_,?_⟩⟩
  .obtain ⟨h1,h2⟩:=hS r hr
   constructor
   .show u3.q<=r
    rcases h1 with h1|h1|h1|h1<;>grind
   .show r<=v3.q
    rcases h2 with h1|h1|h1|h1<;>grind
  .show G p u3.q
   rcases m9 with h|h
   .rw [h];rcases m6 with h|h
    .rw [h];rcases m3 with h|h<;>rw[h]<;>assumption
    .rw [h];assumption
   .rw [h];assumption
  .show G p v3.q
   rcases n9 with h|h
   .rw [h];rcases n6 with h|h
    .rw [h];rcases n3 with h|h<;>rw[h]<;>assumption
    .rw [h];assumption
   .rw [h];assumption
  .obtain ⟨⟨⟨_,k1⟩,_,k2⟩,⟨⟨_,k3⟩,_,k4⟩,⟨⟨_,k5⟩,_,k6⟩,⟨⟨_,k7⟩,_,k8⟩⟩:=xj L U hL hU h
   show L<=u3.q;rcases m9 with h|h
   .rw [h];rcases m6 with h|h
    .rw [h];rcases m3 with h|h<;>rw[h]<;>assumption
    .rw [h];assumption
   .rw [h];assumption
  .obtain ⟨⟨⟨_,k1⟩,_,k2⟩,⟨⟨_,k3⟩,_,k4⟩,⟨⟨_,k5⟩,_,k6⟩,⟨⟨_,k7⟩,_,k8⟩⟩:=xj L U hL hU h
   show v3.q<=U;rcases n9 with h|h
   .rw [h];rcases n6 with h|h
    .rw [h];rcases n3 with h|h<;>rw[h]<;>assumption
    .rw [h];assumption
   .rw [h];assumption
 .rename_i he
  refine⟨fun _ _=>.inl rfl,fun h=>absurd h ag,fun L U hL hU h=>?_⟩;obtain⟨⟨⟨k1,_⟩,k2,_⟩,⟨⟨k3,_⟩,k4,_⟩,⟨⟨k5,_⟩,k6,_⟩,⟨⟨k7,_⟩,k8,_⟩⟩:=xj L U hL hU h;exact absurd ⟨⟨k1,k2⟩,⟨k3,k4⟩,⟨k5,k6⟩,k7,k8⟩ he
theorem QD{a b c d x y:Rat}(h1:a<=x)(h2:x<=b)(h3:c<=y)(h4:y<=d):
 (a*c<=x*y\/a*d<=x*y\/b*c<=x*y\/b*d<=x*y)/\(x*y<=a*c\/x*y<=a*d\/x*y<=b*c\/x*y<=b*d):=by
 have mono:∀ {u v w:Rat},u<=v->0<=w->u*w<=v*w:=fun h k=>b8 h k
 have anti:∀ {u v w:Rat},u<=v->w<=0->v*w<=u*w:=by
  intro u v w h k;have:=mono h (show 0 <= -w by grind)
  grind
 have side:∀ t:Rat,(t*c<=t*y\/t*d<=t*y)/\(t*y<=t*c\/t*y<=t*d):=by
  intro t;rw[fo t c,fo t d,fo t y];rcases Rat.le_total (a:=0) (b:=t)with h|h
  .exact ⟨.inl (mono h3 h),.inr (mono h4 h)⟩
  .exact ⟨.inr (anti h4 h),.inl (anti h3 h)⟩
 have sa:=side a;have sb:=side b;rcases Rat.le_total (a:=0) (b:=y)with h|h
 .have m1:=mono h1 h
  have m2:=mono h2 h;clear mono anti side;constructor
  .rcases sa.1 with k|k<;>grind
  .rcases sb.2 with k|k<;>grind
 .have m1:=anti h1 h
  have m2:=anti h2 h;clear mono anti side;constructor
  .rcases sb.1 with k|k<;>grind
  .rcases sa.2 with k|k<;>grind
theorem Iv.jX.jZ{x:Iv}{r:Rat}(h:x.jX r)(k:x.all=false):x.lo.q<=r/\r<=x.hi.q:=by
 rcases h with h|h
 .rw [k]at h;cases h
 .exact h
theorem zp(a b:Dy):(kI a b).lG:=qJ _ _ _
theorem M3{x y:Iv}(hx:x.ib)(hy:y.ib)(xa:x.all=false)(ya:y.all=false){p:Nat}(hp:1<=p)(ic:p<=4096):
 DJ p (fun r=>∃ a b,x.jX a/\y.jX b/\r=a*b) (iN x y p):=by
 unfold iN;rw[xa,ya];simp only[gw,bq,a6];refine RO (f:=fun a b=>a*b) (fun a b ha hb=>⟨?_,?_,a.q,b.q,?_,?_,rfl⟩) (fun r ⟨a,b,ha,hb,e⟩=>?_)
 .have:=wq (zp a b) hp ic;rwa[Di]at this
 .have:=wu (zp a b) hp ic;rwa[Di]at this
 .rcases ha with rfl|rfl;exact hx.wV;exact hx.A9
 .rcases hb with rfl|rfl;exact hy.wV;exact hy.A9
 .obtain ⟨h1,h2⟩:=ha.jZ xa
  obtain⟨h3,h4⟩:=hb.jZ ya;rw[e];exact QD h1 h2 h3 h4
theorem I0{x y:Iv}(p:Nat)(h:x.all=true\/y.all=true):iN x y p=ie:=by
 unfold iN;rw[aR (by rcases h with h|h<;>rw[h]<;>simp)]
theorem IZ{x y:Iv}(hx:x.ib)(hy:y.ib){p:Nat}(hp:1<=p)(ic:p<=4096){a b:Rat}(ha:x.jX a)(hb:y.jX b):(iN x y p).jX (a*b):=by
 cases xa:x.all
 .cases ya:y.all
  .exact (M3 hx hy xa ya hp ic).jX _ ⟨a,b,ha,hb,rfl⟩
  .rw [I0 p (.inr ya)];exact .inl rfl
 .rw [I0 p (.inl xa)];exact .inl rfl
theorem ME{b c:Rat}(h0:0<c)(h:c<=b):b⁻¹<=c⁻¹:=by
 have hb:0<b:= aq ;apply ew (c:=b*c) _ (dJ hb h0);have e1:b⁻¹*(b*c)=c:=by rw[<-dZ,gH _ aq,ey]
 have e2:c⁻¹*(b*c)=b:=by rw[fo b c,<-dZ,gH _ aq,ey]
 rw[e1,e2];exact h
theorem U9(b:Rat):(-b)⁻¹ = -b⁻¹:=by
 by_cases h:b=0
 .rw [h];simp
 .have h1:(-b)⁻¹*(-b)=1:=gH _ aq 
  have h2:b⁻¹*b=1:=gH _ h;have h3:(-b)⁻¹*(-b)*b⁻¹=b⁻¹:=by rw[h1,ey]
  grind
theorem TX{b c:Rat}(h0:b<0)(h:c<=b):b⁻¹<=c⁻¹:=by
 have:=ME (b:=-c) (c:=-b) aq aq;rw[U9,U9]at this
 grind
theorem Xk{y:Iv}(_hy:y.ib)(h:lL y≠0):y.all=false/\(0<y.lo.q\/y.hi.q<0):=by
 unfold lL at h;cases ya:y.all
 .rw [ya]at h
  simp only[bq,a6]at h;refine⟨rfl,?_⟩;split at h
  .rename_i h1;exact .inl ((qP _).1.1 h1)
  .split at h
   .rename_i h1;exact .inr ((qP _).2.1 h1)
   .exact absurd rfl h
 .rw [ya]at h;simp at h
theorem Om{y:Iv}(ya:y.all=false)(h:0<y.lo.q\/y.hi.q<0):lL y≠0:=by
 unfold lL;rw[ya];simp only[bq,a6];rcases h with h|h
 .rw [aR ((qP _).1.2 h)];decide
 .split
  .decide
  .rw [aR ((qP _).2.2 h)];decide
theorem ags{d:Dy}(h:d.q≠0):d.m≠0:=by
 intro h0;apply h;rw[ql,h0];simp
theorem G3{x y:Iv}(hx:x.ib)(hy:y.ib)(xa:x.all=false)(hs:lL y≠0){p:Nat}(hp:1<=p)(ic:p<=4096):
 DJ p (fun r=>∃ a b,x.jX a/\y.jX b/\r=a/b) (jS x y p):=by
 obtain⟨ya,h0⟩:=Xk hy hs;have hle:=hy.q;unfold jS;rw[xa,ya,aT hs];simp only[gw,bq,a6];refine RO (f:=fun a b=>a/b) (fun a b ha hb=>?_) (fun r ⟨a,b,ha,hb,e⟩=>?_)
 .have b0:b.m≠0:=ags (by rcases hb with rfl|rfl<;>grind)
  obtain⟨h1,h2⟩:=KM (a:=a) b0 hp ic;refine⟨h1,h2,a.q,b.q,?_,?_,rfl⟩
  .rcases ha with rfl|rfl;exact hx.wV;exact hx.A9
  .rcases hb with rfl|rfl;exact hy.wV;exact hy.A9
 .obtain ⟨h1,h2⟩:=ha.jZ xa
  obtain⟨h3,h4⟩:=hb.jZ ya;have i1:y.hi.q⁻¹<=b⁻¹:=by
   rcases h0 with h0|h0
   .exact ME aq h4
   .exact TX aq h4
  have i2:b⁻¹<=y.lo.q⁻¹:=by
   rcases h0 with h0|h0
   .exact ME h0 h3
   .exact TX aq h3
  obtain⟨k1,k2⟩:=QD h1 h2 i1 i2;rw[e];simp only[cA];exact⟨aq,aq⟩
theorem D3{x y:Iv}(p:Nat)(h:x.all=true\/lL y=0):jS x y p=ie:=by
 unfold jS;rw[aR (by rcases h with h|h<;>rw[h]<;>simp)]
theorem G4{x y:Iv}(hx:x.ib)(hy:y.ib){p:Nat}(hp:1<=p)(ic:p<=4096){a b:Rat}(ha:x.jX a)(hb:y.jX b):(jS x y p).jX (a/b):=by
 cases xa:x.all
 .by_cases hs:lL y=0
  .rw [D3 p (.inr hs)];exact .inl rfl
  .exact (G3 hx hy xa hs hp ic).jX _ ⟨a,b,ha,hb,rfl⟩
 .rw [D3 p (.inl xa)];exact .inl rfl
theorem BC{x:Iv}(h:x.lo.q<=x.hi.q):x.hi.q<=(mu x).q /\ -x.lo.q<=(mu x).q/\((mu x).q=x.hi.q\/(mu x).q = -x.lo.q):=by
 obtain⟨a1,a2,a3,a4⟩:=yM x.lo;obtain⟨b1,b2,b3,b4⟩:=yM x.hi;obtain⟨c1,c2,c3⟩:=FD (kY x.lo) (kY x.hi);unfold mu;generalize (iO (kY x.lo) (kY x.hi)).q=M at *
 refine⟨aq,aq,?_⟩;rcases c3 with c3|c3
 .rcases a4 with a4|a4
  .grind
  .grind
 .rcases b4 with b4|b4
  .grind
  .grind
theorem agw{x x':Iv}(hx:x.ib)(zY:x'.ib)(h:Sub x x')(xa:x'.all=false):(mu x).q<=(mu x').q:=by
 obtain⟨h1,h2,h3⟩:=h.wh xa;obtain⟨a1,a2,a3⟩:=BC hx.q;obtain⟨b1,b2,b3⟩:=BC zY.q
 grind
theorem M0{x:Iv}(hx:x.ib)(xa:x.all=false):0<=(ni x).q/\(x.lo.q<=0->0<=x.hi.q->(ni x).q=0)/\(0<x.lo.q->(ni x).q=x.lo.q)/\(x.hi.q<0->(ni x).q = -x.hi.q):=by
 have hle:=hx.q;obtain⟨a1,a2,a3,a4⟩:=yM x.lo;obtain⟨b1,b2,b3,b4⟩:=yM x.hi;obtain⟨c1,c2,c3⟩:=BL (kY x.lo) (kY x.hi);by_cases hs:lL x=0
 .have hn:¬(0<x.lo.q\/x.hi.q<0):=fun h=>Om xa h hs
  have:ni x=jx:=by unfold ni;rw[aR hs]
  rw[this,qY];refine⟨b9,fun _ _=>rfl,fun h=>absurd (.inl h) hn,fun h=>absurd (.inr h) hn⟩
 .obtain ⟨_,h0⟩:=Xk hx hs
  have:ni x=iU (kY x.lo) (kY x.hi):=by unfold ni;rw[aQ hs]
  rw[this];generalize (iU (kY x.lo) (kY x.hi)).q=M at *
  generalize (kY x.lo).q=u at *
  generalize (kY x.hi).q=v at *
  refine⟨aq,aq,aq,aq⟩
theorem amo{x x':Iv}(hx:x.ib)(zY:x'.ib)(h:Sub x x'):Sub (iW x) (iW x'):=by
 cases xa:x'.all
 .obtain ⟨h1,h2,h3⟩:=h.wh xa
  unfold iW;rw[h1,xa];refine .inr ⟨rfl,?_,agw hx zY h xa⟩;show(ni x').q<=(ni x).q;obtain⟨a1,a2,a3,a4⟩:=M0 hx h1;obtain⟨b1,b2,b3,b4⟩:=M0 zY xa;have:=hx.q;by_cases c1:0<x'.lo.q
  .rw [b3 c1,a3 aq];exact h2
  .by_cases c2:x'.hi.q<0
   .rw [b4 c2,a4 aq];grind
   .rw [b2 aq aq];exact a1
 .refine .inl ?_
  unfold iW;rw[aR xa];rfl
theorem Gu{x:Iv}(hx:x.ib){r s:Rat}(h:x.jX r)(hs:s=r/\0<=r\/s = -r/\r<=0):(iW x).jX s:=by
 unfold iW;cases xa:x.all
 .obtain ⟨h1,h2⟩:=h.jZ xa
  obtain⟨a1,a2,a3⟩:=BC hx.q;obtain⟨b1,b2,b3,b4⟩:=M0 hx xa;refine .inr ⟨?_,?_⟩
  .show (ni x).q<=s
   by_cases c1:0<x.lo.q
   .rw [b3 c1];grind
   .by_cases c2:x.hi.q<0
    .rw [b4 c2];grind
    .rw [b2 aq aq];grind
  .show s<=(mu x).q
   grind
 .exact .inl rfl
theorem Nz(d:Dy):(me d).jX d.q:=.inr ⟨b9,b9⟩
theorem yK(n:Int):(jD n).jX (n:Rat):=by have:=Nz (jd n);rwa[xt]at this
def ix(d:Dy)(p:Nat)(up:Bool):Nat->Dy×Int
 | 0=>(jh d p up,jz d p up)
 |k+1=>if(ix d p up k).2≠0 then ix d p up k else(jh (kI (ix d p up k).1 d) p up,jz (kI (ix d p up k).1 d) p up)
def kP(d:Dy)(n p:Nat)(up:Bool):Dy×Int:=if d.iK<0 then(iF (ix (iF d) p (!up) (n-1)).1,(ix (iF d) p (!up) (n-1)).2)else ix d p up (n-1)
def qk(x:Iv)(n:Nat):Iv:=if n%2=0 then iW x else x
def mg(x:Iv)(n p:Nat):Iv:=
 if x.all then ie else if n=0 then me ⟨false,1,0⟩
 else kE (kP (qk x n).lo n p false).1 (kP (qk x n).lo n p false).2 (kP (qk x n).hi n p true).1 (kP (qk x n).hi n p true).2
def nA(r:Rat):Nat->Rat
 | 0=>1
 |n+1=>nA r n*r
theorem BW{r:Rat}(h:0<=r):∀ n,0<=nA r n
 | 0=>by show(0:Rat)<=1;decide
 |n+1=>bM (BW h n) h
theorem FU{a b:Rat}(h0:0<=a)(h:a<=b):∀ n,nA a n<=nA b n
 | 0=>b9
 |n+1=>by
  have ih:=FU h0 h n;have m1:=b8 ih h0;have m2:=cB h (BW (bH h0 h) n);exact bH m1 m2
theorem BV(r:Rat):∀ n,nA (-r) n=if n%2=0 then nA r n else -nA r n
 | 0=>rfl
 |n+1=>by
  have ih:=BV r n;simp only[nA,ih];have:n%2=0\/n%2=1:= ae ;rcases this with h|h
  .have h':(n+1)%2=1:= ae 
   rw[h,h'];simp;grind
  .have h':(n+1)%2=0:= ae 
   rw[h,h'];simp;grind
theorem N6{a b:Rat}{n:Nat}(hn:n%2=1)(h:a<=b):nA a n<=nA b n:=by
 by_cases h0:0<=a
 .exact FU h0 h n
 .have ea:=BV (-a) n
  rw[fm,hn]at ea;simp only[gI,a6]at ea;by_cases hb:0<=b
  .have h1:=BW (show 0 <= -a by grind) n
   have h2:=BW hb n
   grind
  .have eb:=BV (-b) n
   rw[fm,hn]at eb;simp only[gI,a6]at eb;have:=FU (show 0 <= -b by grind) (show -b <= -a by grind) n
   grind
theorem NA{d:Dy}(hd:d.lG)(h0:0<=d.q){p:Nat}(hp:1<=p)(ic:p<=4096):∀ k,(ix d p false k).2=0->0<=(ix d p false k).1.q/\(ix d p false k).1.q<=nA d.q (k+1)
 | 0,he=>by
  have A:=wq hd hp ic;refine⟨(A.2 0 (.inl (wF p)) h0).2,?_⟩;have:=(A.1 he).2;simp only[nA,ey];exact this
 |k+1,he=>by
  by_cases hk:(ix d p false k).2≠0
  .exfalso;simp only[ix,aR hk]at he;exact hk he
  .have qV:(ix d p false k).2=0:= ae 
   obtain⟨i1,i2⟩:=NA hd h0 hp ic k qV;have A:=wq (zp (ix d p false k).1 d) hp ic;rw[Di]at A;simp only[ix,aQ hk]at he ⊢;refine⟨(A.2 0 (.inl (wF p)) (bM i1 h0)).2,?_⟩;have h1:=(A.1 he).2;have h2:=b8 i2 h0;exact bH h1 h2
theorem NB{d:Dy}(hd:d.lG)(h0:0<=d.q){p:Nat}(hp:1<=p)(ic:p<=4096):∀ k,(ix d p true k).2=0->nA d.q (k+1)<=(ix d p true k).1.q
 | 0,he=>by
  have A:=wu hd hp ic;have:=(A.1 he).2;simp only[nA,ey];exact this
 |k+1,he=>by
  by_cases hk:(ix d p true k).2≠0
  .exfalso;simp only[ix,aR hk]at he;exact hk he
  .have qV:(ix d p true k).2=0:= ae 
   have i2:=NB hd h0 hp ic k qV;have A:=wu (zp (ix d p true k).1 d) hp ic;rw[Di]at A;simp only[ix,aQ hk]at he ⊢;have h1:=(A.1 he).2;have h2:=b8 i2 h0;exact bH h2 h1
theorem aca{d:Dy}(hd:d.lG){n p:Nat}(hn:1<=n)(hs:0<=d.q\/n%2=1)(hp:1<=p)(ic:p<=4096)(he:(kP d n p false).2=0):(kP d n p false).1.q<=nA d.q n:=by
 unfold kP at he ⊢;by_cases h:d.iK<0
 .rw [aR h]at he ⊢
  have hq:=(qP d).2.1 h;have zS:=hs.resolve_left aq;have:=NB (Da hd) (by rw[oE];grind) hp ic (n-1) he;rw[show n-1+1=n by omega,oE,BV,zS]at this;simp only[gI,a6]at this;show(iF _).q<=_;rw[oE];simp only[dU]
  grind
 .rw [aQ h]at he ⊢
  have h0:0<=d.q:=by
   apply dp.1;intro iD;exact h ((qP d).2.2 iD)
  have:=(NA hd h0 hp ic (n-1) he).2;rwa[show n-1+1=n by omega]at this
theorem acb{d:Dy}(hd:d.lG){n p:Nat}(hn:1<=n)(hs:0<=d.q\/n%2=1)(hp:1<=p)(ic:p<=4096)(he:(kP d n p true).2=0):nA d.q n<=(kP d n p true).1.q:=by
 unfold kP at he ⊢;by_cases h:d.iK<0
 .rw [aR h]at he ⊢
  have hq:=(qP d).2.1 h;have zS:=hs.resolve_left aq;have:=(NA (Da hd) (by rw[oE];grind) hp ic (n-1) he).2;rw[show n-1+1=n by omega,oE,BV,zS]at this;simp only[gI,a6]at this;show _<=(iF _).q;rw[oE];simp only[eP]
  grind
 .rw [aQ h]at he ⊢
  have h0:0<=d.q:=by
   apply dp.1;intro iD;exact h ((qP d).2.2 iD)
  have:=NB hd h0 hp ic (n-1) he;rwa[show n-1+1=n by omega]at this
theorem ahO{x:Iv}(hx:x.ib){n p:Nat}(hp:1<=p)(ic:p<=4096){r:Rat}(h:x.jX r):(mg x n p).jX (nA r n):=by
 unfold mg;cases xa:x.all
 .simp only[bq,a6]
  by_cases hn:n=0
  .rw [aR hn]
   subst hn;have e:(⟨false,1,0⟩:Dy).q=1:= ar ;refine .inr ⟨?_,?_⟩
   .show (⟨false,1,0⟩:Dy).q<=1
    rw[e];exact b9
   .show 1<=(⟨false,1,0⟩:Dy).q
    rw[e];exact b9
  .rw [aQ hn]
   obtain⟨s,hs,tS,hsn⟩:∃ s,(qk x n).jX s/\(n%2=0->0<=(qk x n).lo.q/\0<=s)/\nA r n=nA s n:=by
    unfold qk;by_cases pE:n%2=0
    .rw [aR pE]
     have hl:0<=(iW x).lo.q:=by
      unfold iW;rw[xa];show 0<=(ni x).q;unfold ni;split
      .rw [qY];exact b9
      .obtain ⟨_,_,m⟩:=BL (kY x.lo) (kY x.hi)
       rcases m with m|m<;>rw[m]
       .exact (yM x.lo).1
       .exact (yM x.hi).1
     by_cases hr:0<=r
     .exact ⟨r,Gu hx h (.inl ⟨rfl,hr⟩),fun _=>⟨hl,hr⟩,rfl⟩
     .refine ⟨-r,Gu hx h (.inr ⟨rfl,aq⟩),fun _=>⟨hl,aq⟩,?_⟩
      rw[BV,aR pE]
    .rw [aQ pE]
     exact⟨r,h,fun q=>absurd q pE,rfl⟩
   have hyv:(qk x n).ib:=by unfold qk;split;exact DO hx;exact hx
   have ya:(qk x n).all=false:=by
    unfold qk;split
    .unfold iW;rw[xa];rfl
    .exact xa
   rw[hsn];generalize qk x n=y at *
   obtain⟨s1,s2⟩:=hs.jZ ya;obtain⟨c1,c2⟩:=hyv.xN;unfold kE;split
   .exact .inl rfl
   .rename_i he
    have zS:¬n%2=0->n%2=1:=fun q=> ae 
    refine .inr ⟨?_,?_⟩
    .refine bH (aca c1 ae ?_ hp ic ae) ?_
     .by_cases pE:n%2=0
      .exact .inl (tS pE).1
      .exact .inr (zS pE)
     .by_cases pE:n%2=0
      .exact FU (tS pE).1 s1 n
      .exact N6 (zS pE) s1
    .refine bH ?_ (acb c2 ae ?_ hp ic ae)
     .by_cases pE:n%2=0
      .exact FU (tS pE).2 s2 n
      .exact N6 (zS pE) s2
     .by_cases pE:n%2=0
      .exact .inl (bH (tS pE).2 s2)
      .exact .inr (zS pE)
 .rw [aR rfl];exact .inl rfl
end Go.Proofs.YtdgnpeddgdclhaaGreatDoor.Fp
namespace Go.Proofs.YtdgnpeddgdclhaaGreatDoor
open Go.RowKit Fp Pu
structure mV where
 kind:Nat
 a:Nat
 b:Nat
 n:Nat
 cn:Int
 cd:Int
structure pg where
 im:Nat
 gW:List mV
 ig:List Nat
structure lM where
 tape:pg
 iA:Nat
 params:List Iv
def iR:mV:=⟨0,0,0,0,0,0⟩
def Jb(o:mV):List E:=[iP (o.kind:Int),iP (o.a:Int),iP (o.b:Int),iP (o.n:Int),iP o.cn,iP o.cd]
def ve(o:mV):E:=.agg (Jb o)
def nW(l:List mV):E:=.sl true l.length 6 fun i j=>(Jb (l.getD i iR)).getD j .any
def nV(l:List Nat):E:=.sl true l.length 1 fun i _=>iP (l.getD i 0:Int)
def ale(t:pg):List E:=[iP (t.im:Int),nW t.gW,nV t.ig]
def yW(t:pg):E:=.agg (ale t)
def akT(s:lM):List E:=[iP (s.tape.im:Int),nW s.tape.gW,nV s.tape.ig,iP (s.iA:Int),ik s.params]
def jF(s:lM):E:=.agg (akT s)
def lJ(n d:Int):Bool:=decide (1<=d)&&(decide (d<=1073741824)&&(decide (-1073741824<=n)&&(decide (n<=1073741824)&&decide (Nat.gcd n.natAbs d.natAbs=1))))
theorem FK{n d:Int}(h:lJ n d=true):1<=d/\d<=1073741824 /\ -1073741824<=n/\n<=1073741824:=by
 unfold lJ at h;simp only[bB,bW]at h;exact⟨h.1,h.2.1,h.2.2.1,h.2.2.2.1⟩
structure nn(o:mV)(m:Nat):Prop where
 k3:o.kind=1\/3<=o.kind
 C3:o.kind<=13
 a:if o.kind=1 then o.a=0 else o.a<m
 b:if 3<=o.kind/\o.kind<=6 then o.b<m else o.b=0
 n:if o.kind=8 then o.n<=16 else o.n=0
 c:if o.kind=1 then lJ o.cn o.cd=true else o.cn=0/\o.cd=0
structure ze(t:pg):Prop where
 im:t.im<=8
 gW:t.gW.length<=200
 ig:t.ig.length<=200
 op:∀ i,i<t.gW.length->nn (t.gW.getD i iR) (t.im+i)
 out:∀ i,i<t.ig.length->t.ig.getD i 0<t.im+t.gW.length
def oA(l:List Iv):Prop:=∀ i,i<l.length->(l.getD i ie).ib/\(l.getD i ie).all=false
structure nJ(s:lM):Prop where
 tape:ze s.tape
 s1:1<=s.iA
 s4:s.iA<=4
 ig:s.tape.ig.length=s.iA
 im:s.tape.im=s.iA+s.params.length
 p4:s.params.length<=4
 params:oA s.params
structure kX(n:Nat)(b:List Iv):Prop where
 len:b.length=n
 ok:oA b
def nd(l:List Iv):Bool:=(List.range l.length).any fun i=>(l.getD i ie).all
def jU(h:Dy):Iv:=⟨jx,h,false⟩
def IJ(x f:List Iv)(h:Dy)(p i:Nat):Iv:=jj (x.getD i ie) (iN (jU h) (f.getD i ie) p) p
def tX(x f:List Iv)(h:Dy)(p:Nat):List Iv:=(List.range x.length).map (IJ x f h p)
theorem FX{h:Dy}(hv:h.ib)(h0:0<=h.q):(jU h).ib:=.inr ⟨rfl,rm,hv,by show jm jx h<=0;rw[o0,qY];exact h0⟩
theorem wA(d:Dy){p:Nat}(hp:1<=p)(ic:p<=4096)(up:Bool):(jh d p up).ib:=mi _ _ _ _ _ _ hp ic
theorem uf(d:Dy){p:Nat}(hp:1<=p)(ic:p<=4096)(up:Bool):∀ k,(ix d p up k).1.ib
 | 0=>wA _ hp ic _
 |k+1=>by
  unfold ix;split
  .exact uf d hp ic up k
  .exact wA _ hp ic _
theorem Rm(d:Dy)(n:Nat){p:Nat}(hp:1<=p)(ic:p<=4096)(up:Bool):(kP d n p up).1.ib:=by
 unfold kP;split
 .exact qj (uf _ hp ic _ _)
 .exact uf _ hp ic _ _
theorem Nn:canon false 1 0=⟨false,1,0⟩:=by
 have h1:(canon false 1 0).neg=false:= ar ;have h2:(canon false 1 0).m=1:= ar ;have h3:(canon false 1 0).e=0:= ar ;generalize canon false 1 0=d at *
 cases d;simp_all
theorem De:(⟨false,1,0⟩:Dy).ib:=by
 have h2:mP (canon false 1 0):= ar ;rw[<-Nn];exact⟨qJ _ _ _,h2⟩
theorem ahP{x:Iv}(hx:x.ib)(n:Nat){p:Nat}(hp:1<=p)(ic:p<=4096):(mg x n p).ib:=by
 have hh:=ahO hx (n:=n) hp ic hx.wV;revert hh;unfold mg;split
 .intro _;exact mh
 .split
  .intro _;exact vh De
  .unfold kE
   split
   .intro _;exact mh
   .intro hh
    obtain⟨h1,h2⟩:=hh.jZ rfl;exact .inr ⟨rfl,Rm _ _ hp ic _,Rm _ _ hp ic _,(o0 _ _).2 (bH h1 h2)⟩
def ph(l:List Iv):Prop:=∀ i,(l.getD i ie).ib
theorem ph.push{l:List Iv}(h:ph l){y:Iv}(hy:y.ib):ph (l++[y]):=fun i=>by
 rw[aW,fB];split
 .have:=h i;rwa[aW]at this
 .rcases i-l.length with _|j
  .exact hy
  .exact mh
theorem oA.OK{l:List Iv}(h:oA l):ph l:=fun i=>by
 by_cases hi:i<l.length
 .exact (h i hi).1
 .rw [aW,bS ae];exact mh
theorem ph.append{l r:List Iv}(h:ph l)(k:ph r):ph (l++r):=fun i=>by
 rw[aW,fB];split
 .have:=h i;rwa[aW]at this
 .have:=k (i-l.length);rwa[aW]at this
theorem aeg{l:List Iv}(h:nd l=false)(v:ph l):oA l:=fun i hi=>⟨v i,by simpa using List.any_eq_false.1 h i (bI.2 hi)⟩
theorem afd{x f:List Iv}{h:Dy}(hx:ph x){p:Nat}(hp:1<=p)(ic:p<=4096)(i:Nat):(IJ x f h p i).ib:=rT (hx i) (qC _ _ hp ic) hp ic
theorem Bt(x f:List Iv)(h:Dy)(p:Nat):(tX x f h p).length=x.length:=by simp[tX]
theorem Ab{x f:List Iv}{h:Dy}{p i:Nat}(hi:i<x.length):(tX x f h p).getD i ie=IJ x f h p i:=by
 simp[tX,aW,hi]
theorem afe{x f:List Iv}{h:Dy}(hx:ph x){p:Nat}(hp:1<=p)(ic:p<=4096):ph (tX x f h p):=fun i=>by
 by_cases hi:i<x.length
 .rw [Ab hi];exact afd hx hp ic i
 .rw [aW,bS (by rw[Bt];omega)];exact mh
def rK(a b:List Iv):Bool:=(List.range a.length).all fun i=>oV (a.getD i ie) (b.getD i ie)
def uO(x:Iv)(d:Dy):Bool:=decide (mI (iI x.lo (iF d))=0)&&decide (mI (iI x.hi d)=0)
def qw(x:Iv)(d:Dy):Iv:=⟨kC (iI x.lo (iF d)),kC (iI x.hi d),false⟩
def sB(x:List Iv)(d:Dy):Bool:=(List.range x.length).all fun i=>uO (x.getD i ie) d
def qT(x:List Iv)(d:Dy):List Iv:=if sB x d then(List.range x.length).map fun i=>qw (x.getD i ie) d else[]
def CW(x y:Iv):Iv:=if x.all||y.all then ie else⟨iU x.lo y.lo,iO x.hi y.hi,false⟩
def tp(x:Iv)(p:Nat):Dy:=jh (iI x.hi (iF x.lo)) p true
def AL(x:Iv)(p:Nat):Int:=jz (iI x.hi (iF x.lo)) p true
theorem aeK{x y:Iv}(hx:x.ib)(hy:y.ib):(CW x y).ib:=by
 unfold CW;cases xa:x.all
 .cases ya:y.all
  .obtain ⟨x1,x2⟩:x.lo.ib/\x.hi.ib:=hx.jZ
   obtain⟨y1,y2⟩:y.lo.ib/\y.hi.ib:=hy.jZ;refine .inr ⟨rfl,pX x1 y1,oX x2 y2,?_⟩;rw[o0];have hq:=hx.q;obtain⟨a1,a2,_⟩:=BL x.lo y.lo;obtain⟨b1,b2,_⟩:=FD x.hi y.hi
   grind
  .exact mh
 .exact mh
theorem ad2{x:Iv}(hx:x.ib){d:Dy}(hd:d.ib)(h0:0<=d.q)(h:uO x d=true):(qw x d).ib:=by
 unfold uO at h;rw[bB,bW,bW]at h;obtain⟨h1,h2⟩:=h;have r1:mP (iI x.lo (iF d)):=bE fun q=>by rw[GR q]at h1;cases h1
 have r2:mP (iI x.hi d):=bE fun q=>by rw[GR q]at h2;cases h2
 obtain⟨c1,c2⟩:=hx.xN;unfold qw;refine .inr ⟨rfl,Qq (AU c1 (qj hd).canon),Qq (AU c2 hd.canon),?_⟩;show jm (kC _) (kC _)<=0;rw[AV r1,AV r2,o0,NC,NC,oE];have:=hx.q
 grind
theorem ad0{x:List Iv}{n:Nat}(hx:kX n x){d:Dy}(hd:d.ib)(h0:0<=d.q)(h:sB x d=true):kX n (qT x d):=by
 unfold qT;rw[aR h];refine⟨by simp[hx.len],fun i hi=>?_⟩;have oL:i<x.length:=by simpa using hi
 have e:((List.range x.length).map fun i=>qw (x.getD i ie) d).getD i ie=qw (x.getD i ie) d:=by simp[aW,oL]
 rw[e];exact⟨ad2 (hx.ok i oL).1 hd h0 (bF.1 h i (bI.2 oL)),rfl⟩
open Go.RowKit Fp Pu
theorem abI(s:Bool)(L:List Nat)(e:Int)(hk:iC L)(hl:L.length<=256)(kQ:-1000000<=e)(kx:e<=1000000):gV 79 [bP s,gX L,iP e] (gY (canon s (val L) e)):=by
 refine⟨Tryz.call79,fun w B vs hK hB hr=>?_⟩;obtain⟨v1,vs,rfl,h1,hr⟩:=hr.lX;obtain⟨v2,vs,rfl,h2,hr⟩:=hr.lX;obtain⟨v3,vs,rfl,h3,hr⟩:=hr.lX;obtain rfl:=hr.pY;obtain rfl:=iG.kJ h1;obtain rfl:=iG.kJ h3;obtain⟨A,c,rfl,s1⟩:=uj hk h2;exact(G8 s A c L e w s1 ae (by have:=oG L;unfold lQ at this;omega) kQ kx hK).mono fun e w' h=>rd B w e w' hB h
theorem alq(x y:Nat):E.le (.sl false 2 1 fun i j=>[E.v (.int .u32 (x:Int)),.v (.int .u32 (y:Int))].getD (i*1+j) (.v (.bool false))) (gX [x,y]):=.sl fun i j hi hj=>by
 obtain rfl:j=0:= ae ;obtain rfl|rfl:i=0\/i=1:= ae 
 .exact ⟨.refl _,rfl⟩
 .exact ⟨.refl _,rfl⟩
theorem Bv(n:Nat):jd (n:Int)=canon false n 0:=by
 unfold jd kT;rw[aT ae,dA]
theorem MC(n:Nat)(h:n<4294967296):(jd (n:Int)).ib:=by
 rw[Bv];refine⟨qJ _ _ _,?_⟩;by_cases h0:n=0
 .subst h0;exact .inl rfl
 .have:=AT (s:=false) (e:=0) h0
  have hb:ia n<=32:=kN.2 h;refine .inr ⟨ae,ae,?_,ae⟩;obtain⟨h1,h2,h3,h4⟩:=this;have:=mR h3;omega
theorem alS(x y:Nat):val [x,y]=x+4294967296*y:=by simp[val]
open Go.RowKit Fp Pu
def PK(d:Dy)(n p:Nat)(x:Nat):PS:=⟨41,true,[(14,.e (iP (((x+1):Nat):Int))),(13,.e (iP ((ix d p false x).2))),(12,.box 12 0),(10,.box 10 0),(5,.box 5 0),(1,.e (iP n)),(2,.e (iP p)),(4,.e (.fn 92 []))],[(12,.cells 31 (jo ((ix d p false x).1))),(10,.cells 31 [(bP false),(.v (.slice none 0 0)),(iP 0)]),(5,.cells 31 (jo d))]⟩
def PL(d:Dy)(n N p:Nat)(x:Nat):PS:=⟨41,true,[(14,.e (iP (((x+1):Nat):Int))),(13,.e (iP ((ix d p false x).2))),(12,.box 12 0),(10,.box 10 0),(5,.box 5 0),(1,.e (iP n)),(2,.e (iP p)),(4,.e (.fn 92 []))],[(12,.cells 31 (jo ((ix d p false x).1))),(10,.cells 31 [(bP false),(.v (.slice none 0 0)),(iP 0)]),(5,.cells 31 (jo d))]⟩
def PM(d:Dy)(n p:Nat)(x:Nat):PS:=⟨41,true,[(14,.e (iP (((x+1):Nat):Int))),(13,.e (iP ((ix d p true x).2))),(12,.box 12 0),(10,.box 10 0),(5,.box 5 0),(1,.e (iP n)),(2,.e (iP p)),(4,.e (.fn 93 []))],[(12,.cells 31 (jo ((ix d p true x).1))),(10,.cells 31 [(bP false),(.v (.slice none 0 0)),(iP 0)]),(5,.cells 31 (jo d))]⟩
def PN(d:Dy)(n N p:Nat)(x:Nat):PS:=⟨41,true,[(14,.e (iP (((x+1):Nat):Int))),(13,.e (iP ((ix d p true x).2))),(12,.box 12 0),(10,.box 10 0),(5,.box 5 0),(1,.e (iP n)),(2,.e (iP p)),(4,.e (.fn 93 []))],[(12,.cells 31 (jo ((ix d p true x).1))),(10,.cells 31 [(bP false),(.v (.slice none 0 0)),(iP 0)]),(5,.cells 31 (jo d))]⟩
theorem ZI(a b:Dy)(ha:a.ib)(hb:b.ib):gV 190 [gY a,gY b] (.iw [gY (kC (iI a b)),iP (mI (iI a b))]):=Fv Tryz.call190 (fun A c A' c' w h k hT=>Q9 a b A A' c c' w h k hT ha hb) FM
theorem DS(a b:Dy)(ha:a.ib)(hb:b.ib):gV 156 [gY a,gY b] (.iw [gY (kC (iI a (iF b))),iP (mI (iI a (iF b)))]):=Fv Tryz.call156 (fun A c A' c' w h k hT=>abP a b A A' c c' w h k hT ha hb) FM
theorem DQ(a b:Dy)(ha:a.ib)(hb:b.ib):gV 157 [(gY a),(gY b)] (.iw [(gY (kC (iI a b))),(iP (mI (iI a b)))]):=by
 exact tr true Tryz.call157 Tryz.func157 (chain [.c (qg _ af:gV 68 [(gY a)] _),.c (qg _ af:gV 68 [(gY b)] _),.c (ZI _ _ af af:gV 190 [(gY a),(gY b)] _)]<|.nil) ah 
theorem Y7(s:Bool)(m:Nat)(e:Int)(hl:(gU m).length<=256)(kQ:-1000000<=e)(kx:e<=1000000):gV 79 [bP s,gX (gU m),iP e] (gY (canon s m e)):=by
 refine⟨Tryz.call79,fun w B vs hK hB hr=>?_⟩;obtain⟨v1,vs,rfl,h1,hr⟩:=hr.lX;obtain⟨v2,vs,rfl,h2,hr⟩:=hr.lX;obtain⟨v3,vs,rfl,h3,hr⟩:=hr.lX;obtain rfl:=hr.pY;obtain rfl:=iG.kJ h1;obtain rfl:=iG.kJ h3;obtain⟨A,c,rfl,s1⟩:=uj (kB m) h2;exact(Ch s m e A c w s1 hl kQ kx hK).mono fun e w' h=>rd B w e w' hB h
theorem Y8(d:Dy)(hl:(gU d.m).length<=100000000)(kQ:-10000000<=d.e)(kx:d.e<=10000000):gV 78 [gY d] (.iw [gY (kC d),iP (mI d)]):=
 xq Tryz.call78 (fun A c w h _=>GQ d A c w h ae ae ae) FM
theorem Zh(k:Int)(h1:-32768<=k)(h2:k<=32768):gV 77 [(iP k)] (bP true):=by
 exact tr true Tryz.call77 Tryz.func77 (chain [tT 4 ((-32768)<=k) ae,tT 7 (k<=32768) ae]<|.nil) ah 
theorem Ki(d:Dy)(k:Int)(hv:d.ib)(h1:-32768<=k)(h2:k<=32768):gV 36 [(gY d),(iP k)] (.iw [(gY (kC (canon d.neg d.m (d.e+k)))),(iP (mI (canon d.neg d.m (d.e+k))))]):=by
 have hl:=hv.gU;have he:=hv.exp;have iZ:=Qj (kB d.m) hl d.neg (d.e+k);obtain⟨mc,pn⟩:=Qh (kB d.m) hl d.neg (d.e+k) ae ae;rw[jC]at iZ mc pn;exact tr true Tryz.call36 Tryz.func36 (chain [.c (qg _ af:gV 68 [(gY d)] _),.c (Zh _ ae ae:gV 77 [(iP k)] _),iq (d.e+k) ae,.c (Y7 _ _ _ ae ae ae:gV 79 [(bP d.neg),(gX (gU d.m)),(iP (d.e+k))] _),.c (Y8 _ ae ae ae:gV 78 [(gY (canon d.neg d.m (d.e+k)))] _)]<|.nil) ah 
theorem Kg(n:Nat)(h:n<4294967296):gV 113 [(iP n)] (gY (jd (n:Int))):=by
 have ok2:iC [n%4294967296,n/4294967296%4294967296]:=iC.cons (bg _ ag) (iC.cons (bg _ ag) iC.nil);exact tr true Tryz.call113 Tryz.func113 (chain [.o 5 (.int (px _ ae):PV.le (.e (.v (.int .u64 (IntKind.u64.wrap (n:Int))))) (.e (.v (.int .u64 (n:Int))))),tF 7 ((n:Int)<0) ae,tF 11 ((n:Int)<0) ae,.o 13 (.int (uq _):PV.le (.e (.v (.int .u32 (IntKind.u32.wrap (n:Int))))) (.e (.v (.int .u32 (((n%4294967296):Nat):Int))))),.a (ae:0<=(32:Int)/\(32:Int)<=((64:Nat):Int)),.o 15 (.int (BZ _):PV.le (.e (.v (.int .u64 ((n:Int)/2^32)))) (.e (.v (.int .u64 (((n/4294967296):Nat):Int))))),.o 16 (.int (uq _):PV.le (.e (.v (.int .u32 (IntKind.u32.wrap (((n/4294967296):Nat):Int))))) (.e (.v (.int .u32 ((((n/4294967296)%4294967296):Nat):Int))))),.o 17 (.e (alq _ _):PV.le (.e (.sl false 2 1 fun i_ j_=>[(.v (.int .u32 (((n%4294967296):Nat):Int))),(.v (.int .u32 ((((n/4294967296)%4294967296):Nat):Int)))].getD (i_*1+j_) (.v (.bool false)))) (.e (gX [(n%4294967296),((n/4294967296)%4294967296)]))),.c (abI _ _ _ ok2 aj ag ag:gV 79 [(bP false),(gX [(n%4294967296),((n/4294967296)%4294967296)]),(iP 0)] _)]<|rQ (gY (canon false (val [(n%4294967296),((n/4294967296)%4294967296)]) 0)) (gY (jd (n:Int))) (by rw[alS,show n%4294967296+4294967296*(n/4294967296%4294967296)=n by omega,Bv])) ah 
theorem afx:jd 1=⟨false,1,0⟩:=by rw[show(1:Int)=((1:Nat):Int)from rfl,Bv];exact Nn
theorem Kf:gV 113 [iP 1] (gY ⟨false,1,0⟩):=by
 have:=Kg 1 ag;rwa[show((1:Nat):Int)=1 from rfl,afx]at this
theorem GB(d:Dy)(p:Nat)(hd:d.ib)(il:8<=p)(ic:p<=512):gV 301 [(gY d),(iP p)] (.iw [(gY (jh d p false)),(iP (jz d p false))]):=by
 exact tr true Tryz.call301 Tryz.func301 (chain [.c (Jm d p false af ae ae)]<|.nil) ah 
theorem GC(d:Dy)(p:Nat)(hd:d.ib)(il:8<=p)(ic:p<=512):gV 300 [(gY d),(iP p)] (.iw [(gY (jh d p true)),(iP (jz d p true))]):=by
 exact tr true Tryz.call300 Tryz.func300 (chain [.c (Jm d p true af ae ae)]<|.nil) ah 
theorem FC(d:Dy)(p:Nat)(up:Bool)(N:Nat)(h:(ix d p up N).2≠0):∀ k,ix d p up (N+k)=ix d p up N
 | 0=>rfl
 |k+1=>by
  have ih:=FC d p up N h k;show(if(ix d p up (N+k)).2≠0 then ix d p up (N+k)else _)=_;rw[ih,aR h]
theorem se{d:Dy}{p:Nat}{up:Bool}{k:Nat}(h:(ix d p up k).2=0):ix d p up (k+1)=(jh (ml (ix d p up k).1 d) p up,jz (ml (ix d p up k).1 d) p up):=by
 show(if(ix d p up k).2≠0 then _ else _)=_;rw[aQ (not_not_intro h)];rfl
theorem Zw(d:Dy)(n p:Nat)(hd:d.ib)(hn:1<=n)(j9:n<=16)(il:8<=p)(ic:p<=512)(iH:∀ x,x<n-1->(ix d p false x).2=0):gV 299 [(gY d),(iP n),(iP p),(.fn 301 []),(.fn 92 [])] (.iw [gY (ix d p false (n-1)).1,iP (ix d p false (n-1)).2]):=by
 exact tr true Tryz.call299 Tryz.func299 (chain [.c (GB _ _ af ae ae:gV 301 [(gY d),(iP p)] _),.s (Sp.jv (PK d n p) 0 (n-1) ae (fun x hx kf=>by
    have mj:=iH x ae;have hv:=uf d (show 1<=p by omega) (show p<=4096 by omega) false x;exact iB (chain [tT 24 ((((x+1):Nat):Int)<(n:Int)) ae,tB 27 (by rw[mj];rfl:(((ix d p false x).2)==0)=true),.c (Jk ((ix d p false x).1) d p af af ae ae),
     iq ((((x+1):Nat):Int)+1) ae]<|.e (chain [.o 13 (.int (by rw[se mj]):PV.le (.e (iP (jz (ml ((ix d p false x).1) d) p false))) (.e (iP ((ix d p false (x+1)).2)))),.b 12 (.iS (by rw[se mj]):Bx.le (.cells 31 (jo (jh (ml ((ix d p false x).1) d) p false))) (.cells 31 (jo ((ix d p false (x+1)).1))))]<|.nil)) ah)
  (fun hx=>by
    exact iB (chain [tF 24 (((((n-1)+1):Nat):Int)<(n:Int)) ae]<|.nil) ah) ak:jq 3 Tryz.f299 (PK d n p 0) (.exit 0) ⟨41,true,[(13,.e (iP ((ix d p false (n-1)).2))),(12,.box 12 0),(10,.box 10 0)],[(12,.cells 31 (jo ((ix d p false (n-1)).1))),(10,.cells 31 [(bP false),(.v (.slice none 0 0)),(iP 0)])]⟩) (chain [.o 14 (.int rfl:PV.le (.e (iP 1)) (.e (iP (((0+1):Nat):Int)))),.o 13 (.int rfl:PV.le (.e (iP (jz d p false))) (.e (iP ((ix d p false 0).2)))),.b 12 (.iS rfl:Bx.le (.cells 31 (jo (jh d p false))) (.cells 31 (jo ((ix d p false 0).1))))]<|.nil)]<|.nil) ah 
theorem Zx(d:Dy)(n N p:Nat)(hd:d.ib)(hn:1<=n)(j9:n<=16)(il:8<=p)(ic:p<=512)(mE:N<n-1)(iH:∀ x,x<N->(ix d p false x).2=0)(hN:(ix d p false N).2≠0):gV 299 [(gY d),(iP n),(iP p),(.fn 301 []),(.fn 92 [])] (.iw [gY (ix d p false N).1,iP (ix d p false N).2]):=by
 exact tr true Tryz.call299 Tryz.func299 (chain [.c (GB _ _ af ae ae:gV 301 [(gY d),(iP p)] _),.s (Sp.jv (PL d n N p) 0 N ae (fun x hx kf=>by
    have mj:=iH x ae;have hv:=uf d (show 1<=p by omega) (show p<=4096 by omega) false x;exact iB (chain [tT 24 ((((x+1):Nat):Int)<(n:Int)) ae,tB 27 (by rw[mj];rfl:(((ix d p false x).2)==0)=true),.c (Jk ((ix d p false x).1) d p af af ae ae),
     iq ((((x+1):Nat):Int)+1) ae]<|.e (chain [.o 13 (.int (by rw[se mj]):PV.le (.e (iP (jz (ml ((ix d p false x).1) d) p false))) (.e (iP ((ix d p false (x+1)).2)))),.b 12 (.iS (by rw[se mj]):Bx.le (.cells 31 (jo (jh (ml ((ix d p false x).1) d) p false))) (.cells 31 (jo ((ix d p false (x+1)).1))))]<|.nil)) ah)
  (fun hx=>by
    exact iB (chain [tT 24 ((((N+1):Nat):Int)<(n:Int)) ae,tB 27 (by simpa using hN:(((ix d p false N).2)==0)=false)]<|.nil) ah) ak:jq 3 Tryz.f299 (PL d n N p 0) (.exit 0) ⟨41,true,[(13,.e (iP ((ix d p false N).2))),(12,.box 12 0),(10,.box 10 0)],[(12,.cells 31 (jo ((ix d p false N).1))),(10,.cells 31 [(bP false),(.v (.slice none 0 0)),(iP 0)])]⟩) (chain [.o 14 (.int rfl:PV.le (.e (iP 1)) (.e (iP (((0+1):Nat):Int)))),.o 13 (.int rfl:PV.le (.e (iP (jz d p false))) (.e (iP ((ix d p false 0).2)))),.b 12 (.iS rfl:Bx.le (.cells 31 (jo (jh d p false))) (.cells 31 (jo ((ix d p false 0).1))))]<|.nil)]<|.nil) ah 
theorem Zy(d:Dy)(n p:Nat)(hd:d.ib)(hn:1<=n)(j9:n<=16)(il:8<=p)(ic:p<=512):gV 299 [(gY d),(iP n),(iP p),(.fn 301 []),(.fn 92 [])] (.iw [gY (ix d p false (n-1)).1,iP (ix d p false (n-1)).2]):=by
 by_cases h:∃ x,x<n-1/\decide ((ix d p false x).2≠0)=true
 .obtain ⟨N,h1,h2,h3⟩:=qB h
  have hN:(ix d p false N).2≠0:=ct h2;have:=Zx d n N p hd hn j9 il ic h1 (fun x hx=>by simpa using h3 x hx) hN;have e:=FC d p false N hN (n-1-N);rw[show N+(n-1-N)=n-1 by omega]at e;rw[e];exact this
 .exact Zw d n p hd hn j9 il ic fun x hx=>bE fun q=>h ⟨x,hx,aS q⟩
theorem Zz(d:Dy)(n p:Nat)(hd:d.ib)(hn:1<=n)(j9:n<=16)(il:8<=p)(ic:p<=512)(iH:∀ x,x<n-1->(ix d p true x).2=0):gV 299 [(gY d),(iP n),(iP p),(.fn 300 []),(.fn 93 [])] (.iw [gY (ix d p true (n-1)).1,iP (ix d p true (n-1)).2]):=by
 exact tr true Tryz.call299 Tryz.func299 (chain [.c (GC _ _ af ae ae:gV 300 [(gY d),(iP p)] _),.s (Sp.jv (PM d n p) 0 (n-1) ae (fun x hx kf=>by
    have mj:=iH x ae;have hv:=uf d (show 1<=p by omega) (show p<=4096 by omega) true x;exact iB (chain [tT 24 ((((x+1):Nat):Int)<(n:Int)) ae,tB 27 (by rw[mj];rfl:(((ix d p true x).2)==0)=true),.c (Jl ((ix d p true x).1) d p af af ae ae),
     iq ((((x+1):Nat):Int)+1) ae]<|.e (chain [.o 13 (.int (by rw[se mj]):PV.le (.e (iP (jz (ml ((ix d p true x).1) d) p true))) (.e (iP ((ix d p true (x+1)).2)))),.b 12 (.iS (by rw[se mj]):Bx.le (.cells 31 (jo (jh (ml ((ix d p true x).1) d) p true))) (.cells 31 (jo ((ix d p true (x+1)).1))))]<|.nil)) ah)
  (fun hx=>by
    exact iB (chain [tF 24 (((((n-1)+1):Nat):Int)<(n:Int)) ae]<|.nil) ah) ak:jq 3 Tryz.f299 (PM d n p 0) (.exit 0) ⟨41,true,[(13,.e (iP ((ix d p true (n-1)).2))),(12,.box 12 0),(10,.box 10 0)],[(12,.cells 31 (jo ((ix d p true (n-1)).1))),(10,.cells 31 [(bP false),(.v (.slice none 0 0)),(iP 0)])]⟩) (chain [.o 14 (.int rfl:PV.le (.e (iP 1)) (.e (iP (((0+1):Nat):Int)))),.o 13 (.int rfl:PV.le (.e (iP (jz d p true))) (.e (iP ((ix d p true 0).2)))),.b 12 (.iS rfl:Bx.le (.cells 31 (jo (jh d p true))) (.cells 31 (jo ((ix d p true 0).1))))]<|.nil)]<|.nil) ah 
theorem ZA(d:Dy)(n N p:Nat)(hd:d.ib)(hn:1<=n)(j9:n<=16)(il:8<=p)(ic:p<=512)(mE:N<n-1)(iH:∀ x,x<N->(ix d p true x).2=0)(hN:(ix d p true N).2≠0):gV 299 [(gY d),(iP n),(iP p),(.fn 300 []),(.fn 93 [])] (.iw [gY (ix d p true N).1,iP (ix d p true N).2]):=by
 exact tr true Tryz.call299 Tryz.func299 (chain [.c (GC _ _ af ae ae:gV 300 [(gY d),(iP p)] _),.s (Sp.jv (PN d n N p) 0 N ae (fun x hx kf=>by
    have mj:=iH x ae;have hv:=uf d (show 1<=p by omega) (show p<=4096 by omega) true x;exact iB (chain [tT 24 ((((x+1):Nat):Int)<(n:Int)) ae,tB 27 (by rw[mj];rfl:(((ix d p true x).2)==0)=true),.c (Jl ((ix d p true x).1) d p af af ae ae),
     iq ((((x+1):Nat):Int)+1) ae]<|.e (chain [.o 13 (.int (by rw[se mj]):PV.le (.e (iP (jz (ml ((ix d p true x).1) d) p true))) (.e (iP ((ix d p true (x+1)).2)))),.b 12 (.iS (by rw[se mj]):Bx.le (.cells 31 (jo (jh (ml ((ix d p true x).1) d) p true))) (.cells 31 (jo ((ix d p true (x+1)).1))))]<|.nil)) ah)
  (fun hx=>by
    exact iB (chain [tT 24 ((((N+1):Nat):Int)<(n:Int)) ae,tB 27 (by simpa using hN:(((ix d p true N).2)==0)=false)]<|.nil) ah) ak:jq 3 Tryz.f299 (PN d n N p 0) (.exit 0) ⟨41,true,[(13,.e (iP ((ix d p true N).2))),(12,.box 12 0),(10,.box 10 0)],[(12,.cells 31 (jo ((ix d p true N).1))),(10,.cells 31 [(bP false),(.v (.slice none 0 0)),(iP 0)])]⟩) (chain [.o 14 (.int rfl:PV.le (.e (iP 1)) (.e (iP (((0+1):Nat):Int)))),.o 13 (.int rfl:PV.le (.e (iP (jz d p true))) (.e (iP ((ix d p true 0).2)))),.b 12 (.iS rfl:Bx.le (.cells 31 (jo (jh d p true))) (.cells 31 (jo ((ix d p true 0).1))))]<|.nil)]<|.nil) ah 
theorem ZB(d:Dy)(n p:Nat)(hd:d.ib)(hn:1<=n)(j9:n<=16)(il:8<=p)(ic:p<=512):gV 299 [(gY d),(iP n),(iP p),(.fn 300 []),(.fn 93 [])] (.iw [gY (ix d p true (n-1)).1,iP (ix d p true (n-1)).2]):=by
 by_cases h:∃ x,x<n-1/\decide ((ix d p true x).2≠0)=true
 .obtain ⟨N,h1,h2,h3⟩:=qB h
  have hN:(ix d p true N).2≠0:=ct h2;have:=ZA d n N p hd hn j9 il ic h1 (fun x hx=>by simpa using h3 x hx) hN;have e:=FC d p true N hN (n-1-N);rw[show N+(n-1-N)=n-1 by omega]at e;rw[e];exact this
 .exact Zz d n p hd hn j9 il ic fun x hx=>bE fun q=>h ⟨x,hx,aS q⟩
theorem Px(d:Dy)(n p:Nat)(hd:d.ib)(h0:¬d.iK<0)(hn:1<=n)(j9:n<=16)(il:8<=p)(ic:p<=512):gV 278 [(gY d),(iP n),(iP p),(bP false)] (.iw [gY (kP d n p false).1,iP (kP d n p false).2]):=by
 exact tr true Tryz.call278 Tryz.func278 (chain [.c (nT _ af:gV 35 [(gY d)] _),tB 14 (aT h0),.c (Zy _ _ _ af ae ae ae ae:gV 299 [(gY d),(iP n),(iP p),(.fn 301 []),(.fn 92 [])] _)]<|rQ (.iw [(gY ((ix d p false (n-1)).1)),(iP ((ix d p false (n-1)).2))]) (.iw [gY (kP d n p false).1,iP (kP d n p false).2]) (by unfold kP;rw[aQ h0])) ah 
theorem Py(d:Dy)(n p:Nat)(hd:d.ib)(h0:¬d.iK<0)(hn:1<=n)(j9:n<=16)(il:8<=p)(ic:p<=512):gV 278 [(gY d),(iP n),(iP p),(bP true)] (.iw [gY (kP d n p true).1,iP (kP d n p true).2]):=by
 exact tr true Tryz.call278 Tryz.func278 (chain [.c (nT _ af:gV 35 [(gY d)] _),tB 14 (aT h0),.c (ZB _ _ _ af ae ae ae ae:gV 299 [(gY d),(iP n),(iP p),(.fn 300 []),(.fn 93 [])] _)]<|rQ (.iw [(gY ((ix d p true (n-1)).1)),(iP ((ix d p true (n-1)).2))]) (.iw [gY (kP d n p true).1,iP (kP d n p true).2]) (by unfold kP;rw[aQ h0])) ah 
theorem Xi{d:Dy}(h:d.iK<0):¬(iF d).iK<0:=by
 rw[(qP _).2,oE];have:=(qP d).2.1 h
 grind
theorem Zc(d:Dy)(n p:Nat)(hd:d.ib)(h0:¬d.iK<0)(hn:1<=n)(j9:n<=16)(il:8<=p)(ic:p<=512):gV 278 [gY d,iP (n:Int),iP (p:Int),bP false] (.iw [gY (ix d p false (n-1)).1,iP (ix d p false (n-1)).2]):=by
 have:=Px d n p hd h0 hn j9 il ic;unfold kP at this;rwa[aQ h0]at this
theorem Zd(d:Dy)(n p:Nat)(hd:d.ib)(h0:¬d.iK<0)(hn:1<=n)(j9:n<=16)(il:8<=p)(ic:p<=512):gV 278 [gY d,iP (n:Int),iP (p:Int),bP true] (.iw [gY (ix d p true (n-1)).1,iP (ix d p true (n-1)).2]):=by
 have:=Py d n p hd h0 hn j9 il ic;unfold kP at this;rwa[aQ h0]at this
theorem Za(d:Dy)(n p:Nat)(hd:d.ib)(h0:d.iK<0)(hn:1<=n)(j9:n<=16)(il:8<=p)(ic:p<=512):gV 278 [(gY d),(iP n),(iP p),(bP false)] (.iw [gY (kP d n p false).1,iP (kP d n p false).2]):=by
 have Ez:=qj hd;have h1:=Xi h0;have hv:=uf (iF d) (show 1<=p by omega) (show p<=4096 by omega) true (n-1);exact tr true Tryz.call278 Tryz.func278 (chain [.c (nT _ af:gV 35 [(gY d)] _),tB 14 (aS h0),.c (xR _ af:gV 191 [(gY d)] _),.c (Zd _ _ _ Ez h1 hn j9 il ic:gV 278 [(gY (iF d)),(iP n),(iP p),(bP true)] _),.c (xR _ af:gV 191 [(gY ((ix (iF d) p true (n-1)).1))] _)]<|rQ (.iw [(gY (iF ((ix (iF d) p true (n-1)).1))),(iP ((ix (iF d) p true (n-1)).2))]) (.iw [gY (kP d n p false).1,iP (kP d n p false).2]) (by unfold kP;rw[aR h0];rfl)) ah 
theorem Pz(d:Dy)(n p:Nat)(hd:d.ib)(hn:1<=n)(j9:n<=16)(il:8<=p)(ic:p<=512):gV 278 [gY d,iP (n:Int),iP (p:Int),bP false] (.iw [gY (kP d n p false).1,iP (kP d n p false).2]):=by
 by_cases h0:d.iK<0
 .exact Za d n p hd h0 hn j9 il ic
 .exact Px d n p hd h0 hn j9 il ic
theorem Zb(d:Dy)(n p:Nat)(hd:d.ib)(h0:d.iK<0)(hn:1<=n)(j9:n<=16)(il:8<=p)(ic:p<=512):gV 278 [(gY d),(iP n),(iP p),(bP true)] (.iw [gY (kP d n p true).1,iP (kP d n p true).2]):=by
 have Ez:=qj hd;have h1:=Xi h0;have hv:=uf (iF d) (show 1<=p by omega) (show p<=4096 by omega) false (n-1);exact tr true Tryz.call278 Tryz.func278 (chain [.c (nT _ af:gV 35 [(gY d)] _),tB 14 (aS h0),.c (xR _ af:gV 191 [(gY d)] _),.c (Zc _ _ _ Ez h1 hn j9 il ic:gV 278 [(gY (iF d)),(iP n),(iP p),(bP false)] _),.c (xR _ af:gV 191 [(gY ((ix (iF d) p false (n-1)).1))] _)]<|rQ (.iw [(gY (iF ((ix (iF d) p false (n-1)).1))),(iP ((ix (iF d) p false (n-1)).2))]) (.iw [gY (kP d n p true).1,iP (kP d n p true).2]) (by unfold kP;rw[aR h0];rfl)) ah 
theorem PA(d:Dy)(n p:Nat)(hd:d.ib)(hn:1<=n)(j9:n<=16)(il:8<=p)(ic:p<=512):gV 278 [gY d,iP (n:Int),iP (p:Int),bP true] (.iw [gY (kP d n p true).1,iP (kP d n p true).2]):=by
 by_cases h0:d.iK<0
 .exact Zb d n p hd h0 hn j9 il ic
 .exact Py d n p hd h0 hn j9 il ic
theorem ZC(x:Iv)(n p:Nat)(hx:x.ib)(ha:x.all=true)(hn:n<=16)(il:8<=p)(ic:p<=512):gV 241 [(gZ x),(iP n),(iP p)] (gZ (mg x n p)):=by
 exact tr true Tryz.call241 Tryz.func241 (chain [.o 12 (.e (mz _):PV.le (.e (.sl true 1 7 fun i_ j_=>(iY x).getD (i_*7+j_) (.v (.bool false)))) (.e (ik [x]))),.c (pK _ af:gV 86 [(ik [x])] _),tB 13 (by rw[ha];rfl:(!x.all)=false),.c nv]<|rQ (gZ ie) (gZ (mg x n p)) (by unfold mg;rw[aR ha])) ah 
theorem ZG(x:Iv)(n p:Nat)(hx:x.ib)(ha:x.all=false)(h0:n=0)(il:8<=p)(ic:p<=512):gV 241 [(gZ x),(iP n),(iP p)] (gZ (mg x n p)):=by
 have v1:=De;exact tr true Tryz.call241 Tryz.func241 (chain [.o 12 (.e (mz _):PV.le (.e (.sl true 1 7 fun i_ j_=>(iY x).getD (i_*7+j_) (.v (.bool false)))) (.e (ik [x]))),.c (pK _ af:gV 86 [(ik [x])] _),tB 13 (by rw[ha];rfl:(!x.all)=true),.c (u5 _:gV 87 [(iP p)] _),tB 17 (oZ.2 ⟨ae,ae⟩:(lh (p:Int))=true),tF 22 ((n:Int)<0) ae,tF 26 (16<(n:Int)) ae,tB 30 (rM h0:((n:Int)==0)=true),.c (Kf:gV 113 [(iP 1)] _),.c (C2 (Dy.mk false 1 0) af)]<|rQ (gZ (me (Dy.mk false 1 0))) (gZ (mg x n p)) (by unfold mg;rw[aQ (by rw[ha];decide),aR h0])) ah 
theorem ZD(x:Iv)(n p:Nat)(hx:x.ib)(ha:x.all=false)(h0:n≠0)(hn:n<=16)(he:n%2=0)(il:8<=p)(ic:p<=512):gV 241 [(gZ x),(iP n),(iP p)] (gZ (mg x n p)):=by
 have va:=DO hx;obtain⟨w1,w2⟩:=va.jZ;exact tr true Tryz.call241 Tryz.func241 (chain [.o 12 (.e (mz _):PV.le (.e (.sl true 1 7 fun i_ j_=>(iY x).getD (i_*7+j_) (.v (.bool false)))) (.e (ik [x]))),.c (pK _ af:gV 86 [(ik [x])] _),tB 13 (by rw[ha];rfl:(!x.all)=true),.c (u5 _:gV 87 [(iP p)] _),tB 17 (oZ.2 ⟨ae,ae⟩:(lh (p:Int))=true),tF 22 ((n:Int)<0) ae,tF 26 (16<(n:Int)) ae,tB 30 (nj h0:((n:Int)==0)=false),.a (ae:0<(2:Int)),.o 34 (.int (by rw[gJ ae];omega):PV.le (.e (iP (Int.tmod (n:Int) 2))) (.e (iP (((n%2):Nat):Int)))),tB 35 (rM he:((((n%2):Nat):Int)==0)=true),.c (MG x af),.c (Pz _ _ _ af ae ae ae ae:gV 278 [(gY ((iW x).lo)),(iP n),(iP p),(bP false)] _),.c (PA _ _ _ af ae ae ae ae:gV 278 [(gY ((iW x).hi)),(iP n),(iP p),(bP true)] _),.c (Bz ((kP ((iW x).lo) n p false).1) ((kP ((iW x).hi) n p true).1) ((kP ((iW x).lo) n p false).2) ((kP ((iW x).hi) n p true).2))]<|rQ (gZ (kE ((kP ((iW x).lo) n p false).1) ((kP ((iW x).lo) n p false).2) ((kP ((iW x).hi) n p true).1) ((kP ((iW x).hi) n p true).2))) (gZ (mg x n p)) (by unfold mg qk;rw[aQ (by rw[ha];decide),aQ h0,aR he])) ah 
theorem ZE(x:Iv)(n p:Nat)(hx:x.ib)(ha:x.all=false)(h0:n≠0)(hn:n<=16)(he:¬n%2=0)(il:8<=p)(ic:p<=512):gV 241 [(gZ x),(iP n),(iP p)] (gZ (mg x n p)):=by
 have va:=hx;obtain⟨w1,w2⟩:=va.jZ;exact tr true Tryz.call241 Tryz.func241 (chain [.o 12 (.e (mz _):PV.le (.e (.sl true 1 7 fun i_ j_=>(iY x).getD (i_*7+j_) (.v (.bool false)))) (.e (ik [x]))),.c (pK _ af:gV 86 [(ik [x])] _),tB 13 (by rw[ha];rfl:(!x.all)=true),.c (u5 _:gV 87 [(iP p)] _),tB 17 (oZ.2 ⟨ae,ae⟩:(lh (p:Int))=true),tF 22 ((n:Int)<0) ae,tF 26 (16<(n:Int)) ae,tB 30 (nj h0:((n:Int)==0)=false),.a (ae:0<(2:Int)),.o 34 (.int (by rw[gJ ae];omega):PV.le (.e (iP (Int.tmod (n:Int) 2))) (.e (iP (((n%2):Nat):Int)))),tB 35 (nj he:((((n%2):Nat):Int)==0)=false),.c (Pz _ _ _ af ae ae ae ae:gV 278 [(gY x.lo),(iP n),(iP p),(bP false)] _),.c (PA _ _ _ af ae ae ae ae:gV 278 [(gY x.hi),(iP n),(iP p),(bP true)] _),.c (Bz ((kP x.lo n p false).1) ((kP x.hi n p true).1) ((kP x.lo n p false).2) ((kP x.hi n p true).2))]<|rQ (gZ (kE ((kP x.lo n p false).1) ((kP x.lo n p false).2) ((kP x.hi n p true).1) ((kP x.hi n p true).2))) (gZ (mg x n p)) (by unfold mg qk;rw[aQ (by rw[ha];decide),aQ h0,aQ he])) ah 
theorem ZF(x:Iv)(n p:Nat)(hx:x.ib)(hn:n<=16)(il:8<=p)(ic:p<=512):gV 241 [gZ x,iP (n:Int),iP (p:Int)] (gZ (mg x n p)):=by
 cases ha:x.all with
 |true=>exact ZC x n p hx ha hn il ic
 |false=>
  by_cases h0:n=0
  .exact ZG x n p hx ha h0 il ic
  .by_cases he:n%2=0
   .exact ZD x n p hx ha h0 hn he il ic
   .exact ZE x n p hx ha h0 hn he il ic
theorem Zk(x y:Iv)(hx:x.ib)(hy:y.ib)(xa:x.all=false)(ya:y.all=false):gV 158 [(gZ x),(gZ y)] (gZ (CW x y)):=by
 obtain⟨v1,v2⟩:=hx.jZ;obtain⟨v3,v4⟩:=hy.jZ;exact tr true Tryz.call158 Tryz.func158 (chain [.o 7 (.e (yA _ _):PV.le (.e (.sl true 2 7 fun i_ j_=>(iY x++iY y).getD (i_*7+j_) (.v (.bool false)))) (.e (ik [x,y]))),.c (yz _ _ af af:gV 86 [(ik [x,y])] _),tB 8 (by rw[xa,ya];rfl:(!(x.all||y.all))=true),.c (IL x.lo y.lo af af),.c (IM x.hi y.hi af af)]<|rQ (gZ (Iv.mk (iU x.lo y.lo) (iO x.hi y.hi) false)) (gZ (CW x y)) (by unfold CW;rw[xa,ya];rfl)) ah 
theorem PT(z:Int):(z==0)=decide (z=0):=by by_cases h:z=0<;>simp[h]
theorem Kj(x:Iv)(p:Nat)(hx:x.ib)(xa:x.all=false)(il:8<=p)(ic:p<=512):gV 160 [(gZ x),(iP p)] (.iw [gY (tp x p),bP (decide (AL x p=0))]):=by
 obtain⟨v1,v2⟩:=hx.jZ;have v3:=qj v1;exact tr true Tryz.call160 Tryz.func160 (chain [.o 9 (.e (mz _):PV.le (.e (.sl true 1 7 fun i_ j_=>(iY x).getD (i_*7+j_) (.v (.bool false)))) (.e (ik [x]))),.c (pK _ af:gV 86 [(ik [x])] _),tB 10 (by rw[xa];rfl:(!x.all)=true),.c (u5 _:gV 87 [(iP p)] _),tB 14 (oZ.2 ⟨ae,ae⟩:(lh (p:Int))=true),.c (xR _ af:gV 191 [(gY x.lo)] _),.c (We x.hi (iF x.lo) p af af ae ae)]<|rQ (.iw [(gY (jh (iI x.hi (iF x.lo)) p true)),(bP ((jz (iI x.hi (iF x.lo)) p true)==0))]) (.iw [gY (tp x p),bP (decide (AL x p=0))]) (by rw[PT];rfl)) ah 
theorem GA(x y:Iv):oV x y=(y.all||(!x.all&&(decide (jm y.lo x.lo<=0)&&decide (jm x.hi y.hi<=0)))):=rfl
theorem Zl(x y:Iv)(hx:x.ib)(hy:y.ib):gV 63 [(gZ x),(gZ y)] (bP (oV x y)):=by
 obtain⟨v1,v2⟩:=hx.jZ;obtain⟨v3,v4⟩:=hy.jZ;exact tr true Tryz.call63 Tryz.func63 (chain [.c (qM x af),.c (qM y af)]<|.w (y.all=true)
  (fun k1=>chain [tB 14 (k1)]<|rQ (bP true) (bP (oV x y)) (by rw[GA];simp[k1]))
  (fun k1=>chain [tB 14 (aM k1)]<|.w (x.all=true)
   (fun k2=>chain [tB 17 (k2)]<|rQ (bP false) (bP (oV x y)) (by rw[GA];simp[k1,k2]))
   (fun k2=>chain [tB 17 (aM k2),.c (nS _ _ af af:gV 37 [(gY y.lo),(gY x.lo)] _)]<|.w ((jm y.lo x.lo)<=0)
    (fun k3=>chain [tB 25 (aS k3),.c (nS _ _ af af:gV 37 [(gY x.hi),(gY y.hi)] _)]<|rQ (bP (decide ((jm x.hi y.hi)<=0))) (bP (oV x y)) (by rw[GA];simp[k1,k2,k3]))
    (fun k3=>chain [tB 25 (aT k3)]<|rQ (bP false) (bP (oV x y)) (by rw[GA];simp[k1,k2,k3]))))) ah 
open Go.RowKit Fp Pu
theorem amp{α:Type}{l:List α}{i:Nat}{d:α}(h:i<l.length):l.getD i d=l[i]:=by
 rw[aW,bd h];rfl
theorem yB{T n n' k:Nat}{F:Nat->Iv}{y:Iv}(hn:n=k)(vX:n'=k+1)(hy:y=F k):
 Bx.le (.row true T (n+[y].length) 7 fun i j=>if i<n then ki ((List.range k).map F) i j else(E.lZ (ik [y])) (i-n) j) (.row true T n' 7 (ki ((List.range (k+1)).map F))):=by
 subst hn vX hy;refine .row rfl fun i j hi hj=>⟨.iS ?_,C1 _ _ hj⟩
 have hi:i<n+1:=hi;by_cases h:i<n
 .rw [aR h]
  simp only[ki];rw[NN h,NN hi]
 .have oL:i=n:= ae 
  subst oL;rw[aQ h,cT];simp only[ki];rw[NN hi];rfl
theorem Ag{n:Nat}{M:List Iv}(hn:n=M.length):E.le (.sl true n 7 (ki M)) (ik M):=by subst hn;exact .refl _
open Go.RowKit Fp Pu
open Go.RowKit Fp Pu
theorem BG(n:Nat)(h:n<4294967296):(jD (n:Int)).ib:=vh (MC n h)
open Go.RowKit Fp Pu
theorem aaR(m:Nat)(e:Int):(canon false m e).neg=false:=by unfold canon;split<;>rfl
theorem afr{c:Nat}(hc:0<c):(jd (c:Int)).m≠0:=by
 rw[Bv];exact(AT (s:=false) (e:=0) ae).2.2.1
theorem ahd{c:Nat}(hc:0<c):lL (jD (c:Int))=1:=by
 unfold lL jD me;simp only[bq,a6];rw[aR];unfold Dy.iK;rw[aQ (afr hc),show(jd (c:Int)).neg=false by rw[Bv];exact aaR _ _];simp
open Go.RowKit Fp Pu
open Go.RowKit Fp Pu
section
variable {m m':List (List Iv)} {h h':Iv} {n p:Nat}
theorem Nf(j:Nat)(hj:j<4294967296):(jD (j:Int)).ib:=vh (MC j hj)
end
theorem Vd(c:Nat):(jD (c:Int)).lo.q=(c:Rat)/\(jD (c:Int)).hi.q=(c:Rat)/\(jD (c:Int)).all=false:=by
 refine⟨?_,?_,rfl⟩
 .show (jd _).q=_
  rw[xt];exact dI c
 .show (jd _).q=_
  rw[xt];exact dI c
open Go.RowKit Fp Pu
theorem Dq(s:Bool)(m:Nat)(e:Int)(hl:(gU m).length<=3000)(kQ:-1000000<=e)(kx:e<=1000000):gV 76 [bP s,gX (gU m),iP e] (gY (canon s m e)):=by
 refine⟨Tryz.call76,fun w B vs hK hB hr=>?_⟩;obtain⟨v1,vs,rfl,h1,hr⟩:=hr.lX;obtain⟨v2,vs,rfl,h2,hr⟩:=hr.lX;obtain⟨v3,vs,rfl,h3,hr⟩:=hr.lX;obtain rfl:=hr.pY;obtain rfl:=iG.kJ h1;obtain rfl:=iG.kJ h3;obtain⟨A,c,rfl,s1⟩:=uj (kB m) h2;have:=FN s A c (gU m) e w s1 hl kQ kx;rw[jC]at this;exact this.mono fun e w' h=>rd B w e w' hB h
theorem yP(a:Dy)(ha:a.ib):gV 46 [gY a] (bP true):=xq Tryz.call46 (fun A c w h _=>ajp a A c w h ha) rv
theorem vk(a:Dy):gV 47 [gY a] (iP a.iK):=xq Tryz.call47 (fun A c w h _=>ajl a A c w h) rv
theorem rO(a:Dy):gV 99 [gY a] (gY (iF a)):=
 xq Tryz.call99 (fun A c w h _=>by
  have:=ajc a.neg A c (gU a.m) a.e w h (tn _);rw[jC]at this;exact this) rd
theorem Jo(a:Dy)(ha:uz a):gV 97 [gY a] (iP a.iu):=xq Tryz.call97 (fun A c w h _=>ajo a A c w h ha) rv
theorem WE(n:Nat)(hn:n<4294967296):gV 81 [iP (n:Int)] (gY (canon false n 0)):=by
 refine⟨Tryz.call81,fun w B vs hK hB hr=>?_⟩;obtain⟨v1,vs,rfl,h1,hr⟩:=hr.lX;obtain rfl:=hr.pY;obtain rfl:=iG.kJ h1;exact(ai9 n w hn).mono fun e w' h=>rd B w e w' hB h
theorem WD(a b:Dy)(r:Bool)(hr:r=true↔a=b)(ha:(gU a.m).length<=100000)(hb:(gU b.m).length<=100000):gV 101 [gY a,gY b] (bP r):=
 Fv Tryz.call101 (fun A c A' c' w h k _=>ai5 a b A A' c c' w _ h k ha hb hr) rv
end Go.Proofs.YtdgnpeddgdclhaaGreatDoor
namespace Go.Proofs.YtdgnpeddgdclhaaGreatDoor.Fp
theorem Uv(m k:Nat):jY (m/2^k*2^k) m=0↔m%2^k=0:=by
 have h1:=bU m (2^k);rw[a7]at h1;unfold jY;split
 .simp;omega
 .split
  .have:=cN m (2^k);omega
  .simp;omega
theorem QI{neg up more:Bool}{m p q:Nat}{e:Int}(hq:kD m e more p (neg != up)=q)(h:q=0\/¬16384<(ia q:Int)+e+ja m e p):jP neg m e more p up=canon neg q (e+ja m e p)/\jG neg m e more p up=0:=by
 have ho:lN m e more p (neg != up)=false:=by
  unfold lN;rw[hq];rcases h with h|h
  .simp [h]
  .simp [h]
 unfold jP jG;rw[ho,hq];simp
theorem QK{neg up more:Bool}{m p q:Nat}{e:Int}(hq:kD m e more p (neg != up)=q)(h0:q≠0)(h:16384<(ia q:Int)+e+ja m e p):
 ((neg != up)=true->jP neg m e more p up=jx/\jG neg m e more p up=9)/\((neg != up)=false->jP neg m e more p up=canon neg (2^p-1) (16384-p)/\jG neg m e more p up=0):=by
 have ho:lN m e more p (neg != up)=true:=by unfold lN;rw[hq];simp[h0,h]
 unfold jP jG;rw[ho];constructor
 .intro hn;rw[hn];exact⟨rfl,rfl⟩
 .intro hn;rw[hn];exact⟨rfl,rfl⟩
end Go.Proofs.YtdgnpeddgdclhaaGreatDoor.Fp
namespace Go.Proofs.YtdgnpeddgdclhaaGreatDoor
open Go.RowKit Fp Pu
theorem aji(d:Dy)(k:Int)(hd:d.ib)(oe:-32768<=k)(sD:k<=32768)(hr:mP (canon d.neg d.m (d.e+k))):gV 31 [gY d,iP k] (.iw [gY (canon d.neg d.m (d.e+k)),iP 0]):=by
 refine⟨Tryz.call31,fun w B vs hK hB EG=>?_⟩;obtain⟨v1,vs,rfl,h1,EG⟩:=EG.lX;obtain⟨v2,vs,rfl,h2,EG⟩:=EG.lX;obtain rfl:=EG.pY;obtain⟨A,c,rfl,s1⟩:=G9 h1;obtain rfl:=iG.kJ h2;have:=ajj d.neg A c (gU d.m) d.e k w s1 hd.vH oe sD (by rw[jC];exact hr);rw[jC]at this;exact this.mono fun e w' h=>FM B w e w' hB h
theorem Qg{n:Int}{e:Int}:canon (jd n).neg (jd n).m ((jd n).e+e)=kT n e:=by
 unfold jd kT;by_cases h:n.natAbs=0
 .rw [h,Cg,Cg]
  show canon false 0 _=_;rw[Cg]
 .have h1:=D4 h
  rw[show canon (decide (n<0)) n.natAbs 0=⟨decide (n<0),n.natAbs/2^jO n.natAbs,0+(jO n.natAbs:Int)⟩by unfold canon;rw[aQ h]];show canon (decide (n<0)) (n.natAbs/2^jO n.natAbs) (0+(jO n.natAbs:Int)+e)=_;rw[<-KA _ _ _ (jO n.natAbs),h1];congr 1;omega
theorem DW{n e:Int}(h1:n.natAbs<4294967296)(h2:-1000<=e)(h3:e<=1000):(kT n e).ib:=by
 refine⟨qJ _ _ _,?_⟩;unfold kT;by_cases h0:n.natAbs=0
 .rw [h0,Cg];exact .inl rfl
 .have:=AT (s:=decide (n<0)) (e:=e) h0
  have hb:ia n.natAbs<=32:=kN.2 h1;obtain⟨h4,h5,h6,_⟩:=this;have:=mR h6;exact .inr ⟨ae,ae,ae,ae⟩
theorem rZ{n:Int}(h1:n.natAbs<4294967296):(jd n).ib:=DW h1 ag ag 
theorem ai7(k:Nat)(w:World)(h0:0<k)(hn:k<4294967296):
 Calls Tryz.prog 81 #[.int .i64 (-(k:Int))] w (tv w (canon true k 0)):=by
 have hm:=vC k ae;have uW:(k:Int)%4294967296=k:= ae ;rw[uW]at hm;have hd:(k:Int)/4294967296=0:= ae ;have iD:(-(k:Int))<0:= ae ;have LR:decide ((-(k:Int))<0)=true:=aS iD;have hu:IntKind.u64.wrap (-(k:Int))=18446744073709551616-k:=by rw[IntKind.wrap_u64];omega
 have hs:IntKind.u64.wrap (-(18446744073709551616-(k:Int)))=k:=by rw[IntKind.wrap_u64];omega
 have HC:=Lib.hid (fun(A:Option Addr) c w (h:Sl w A c [k,0])=>FN true A c [k,0] 0 w h aj ag ag);have hv:val [k,0]=k:= aj ;rw[hv]at HC;clear hv;generalize canon true k 0=d at *
 generalize hN:(-(k:Int))=N at *
 go_enter Tryz.func81,Tryz.ntmps81;go_wp2_with fail;refine(HC.out _ _ _ (Sl.JN _ _ aj _ _ k 0 rfl rfl hn ag)).mono ?_;rintro r w1 ⟨A1,c1,rfl,sF,iZ⟩;have jI:iy (w.alloc (.cells #[.bool false,.slice none 0 0,.int .i64 0] 31)) w1:=(iy.alloc _ _).trans iZ;have bx:=(jg.new w false none 0 0 0).ext jI;have b0:=bx.c0;have b1:=bx.c1;have b2:=bx.c2;have f0:=bx.fr 0;have f1:=bx.fr 1;have f2:=bx.fr 2;go_wp2;exact sx rfl rfl rfl (bx.set _ _ _ _ _) rfl (bx.qm sF _ _ _ _ _) (jg.qc ((iy.alloc _ _).trans jI) (aU _) _ _ _ _ _)
theorem TR(k:Nat)(h0:0<k):jd (-(k:Int))=canon true k 0:=by
 unfold jd kT;rw[aS (show(-(k:Int))<0 by omega),ff,dA]
theorem ai8(n:Int)(h:n.natAbs<4294967296):gV 81 [iP n] (gY (jd n)):=by
 by_cases h0:0<=n
 .obtain ⟨k,rfl⟩:=dY h0
  rw[Bv];exact WE k ae 
 .obtain ⟨k,rfl⟩:∃ k:Nat,n = -(k:Int):=⟨n.natAbs,ae⟩
  rw[TR k ae];refine⟨Tryz.call81,fun w B vs hK hB hr=>?_⟩;obtain⟨v1,vs,rfl,h1,hr⟩:=hr.lX;obtain rfl:=hr.pY;obtain rfl:=iG.kJ h1;exact(ai7 k w ae ae).mono fun e w' h=>rd B w e w' hB h
open Go.RowKit Fp Pu
open Classical in
noncomputable def Fp.sK(d:Dy)(k:Int):Dy:=if mP (canon d.neg d.m (d.e+k))then canon d.neg d.m (d.e+k)else jx
open Classical in
noncomputable def Fp.BX(d:Dy)(k:Int):Int:=if mP (canon d.neg d.m (d.e+k))then 0 else 9
theorem W2(d:Dy)(k:Int):(sK d k).ib:=by
 unfold sK;split
 .rename_i h;exact⟨qJ _ _ _,h⟩
 .exact rm
noncomputable def Fp.mK(x:Iv)(k:Int):Iv:=if x.all then ie else kE (sK x.lo k) (BX x.lo k) (sK x.hi k) (BX x.hi k)
def Fp.qH(x:Iv):Iv:=if x.all then x else⟨iF (mu x),mu x,false⟩
def Fp.pN(n:Int):Dy:=canon false 1 n
theorem vc{n:Int}(h:n.natAbs<4294967296):(jD n).ib:=vh (rZ h)
theorem Cc{x:Iv}(hx:x.ib):(qH x).ib:=by
 unfold qH;cases kz:x.all
 .have he:=hx.jZ
  have hm:=IV he.1 he.2;simp only[bq,a6];refine .inr ⟨rfl,qj hm,hm,?_⟩;show jm (iF (mu x)) (mu x)<=0;rw[o0,oE];obtain⟨a1,a2,_⟩:=BC hx.q;have:=hx.q
  grind
 .exact hx
theorem aj5{d:Dy}{k:Int}(h:BX d k=0):sK d k=canon d.neg d.m (d.e+k):=by
 unfold BX at h;unfold sK;split at h
 .rename_i h1;rw[aR h1]
 .cases h
theorem AD{d:Dy}{k:Int}(h:BX d k=0):(sK d k).q=d.q*P2 k:=by
 rw[aj5 h,qF,ql d,qe];cases d.neg<;>simp<;>grind
theorem Jx{x:Iv}(hx:x.ib)(k:Int):(mK x k).ib:=by
 unfold mK;split
 .exact mh
 .unfold kE
  split
  .exact mh
  .rename_i h
   refine .inr ⟨rfl,W2 _ _,W2 _ _,?_⟩;rw[o0,AD ae,AD ae,u9];exact hx.q
theorem Oe{x:Iv}{r:Rat}(h:x.jX r)(k:Int):(mK x k).jX (r*P2 k):=by
 unfold mK;split
 .exact .inl rfl
 .rename_i ha
  unfold kE;split
  .exact .inl rfl
  .obtain ⟨h1,h2⟩:=h.jZ (by simpa using ha)
   refine .inr ⟨?_,?_⟩
   .show (sK x.lo k).q<=_
    rw[AD ae,u9];exact h1
   .show _<=(sK x.hi k).q
    rw[AD ae,u9];exact h2
open Go.RowKit Fp Pu
theorem abM(k:Nat)(w:World)(h0:0<k)(hn:k<4294967296)(kp:Tb w):
 Calls Tryz.prog 113 #[.int .i64 (-(k:Int))] w (tv w (canon true k 0)):=by
 have hd:(k:Int)/4294967296=0:= ae ;have iD:(-(k:Int))<0:= ae ;have LR:decide ((-(k:Int))<0)=true:=aS iD;have hu:IntKind.u64.wrap (-(k:Int))=18446744073709551616-k:=by rw[IntKind.wrap_u64];omega
 have hs:IntKind.u64.wrap (-(18446744073709551616-(k:Int)))=k:=by rw[IntKind.wrap_u64];omega
 have Hs:IntKind.u32.wrap (k:Int)=k:=by rw[IntKind.wrap_u32];omega
 have ht:(ij [k,0]).length<=256:=by have:=oG [k,0];unfold lQ at this;simp at this;omega
 have HC:=Lib.hid (fun(A:Option Addr) c w (h:Sl w A c [k,0]) (hT:Tb w)=>G8 true A c [k,0] 0 w h aj ht ag ag hT);have hv:val [k,0]=k:= aj ;rw[hv]at HC;clear hv ht;generalize canon true k 0=d at *
 generalize hN:(-(k:Int))=N at *
 go_enter Tryz.func113,Tryz.ntmps113;go_wp2_with fail;refine(HC.out _ _ _ (Sl.JN _ _ aj _ _ k 0 rfl rfl hn ag) (kp.below (by first|exact(iy.alloc _ _).trans (iy.alloc _ _)|exact iy.alloc _ _))).mono ?_;rintro r w1 ⟨A1,c1,rfl,sF,iZ⟩;have jI:iy (w.alloc (.cells #[.bool false,.slice none 0 0,.int .i64 0] 31)) w1:=(iy.alloc _ _).trans iZ;have bx:=(jg.new w false none 0 0 0).ext jI;have b0:=bx.c0;have b1:=bx.c1;have b2:=bx.c2;have f0:=bx.fr 0;have f1:=bx.fr 1;have f2:=bx.fr 2;go_wp2;exact sx rfl rfl rfl (bx.set _ _ _ _ _) rfl (bx.qm sF _ _ _ _ _) (jg.qc ((iy.alloc _ _).trans jI) (aU _) _ _ _ _ _)
theorem qI(n:Int)(h:n.natAbs<4294967296):gV 113 [iP n] (gY (jd n)):=by
 by_cases h0:0<=n
 .obtain ⟨k,rfl⟩:=dY h0
  exact Kg k ae 
 .obtain ⟨k,rfl⟩:∃ k:Nat,n = -(k:Int):=⟨n.natAbs,ae⟩
  rw[TR k ae];refine⟨Tryz.call113,fun w B vs hK hB hr=>?_⟩;obtain⟨v1,vs,rfl,h1,hr⟩:=hr.lX;obtain rfl:=hr.pY;obtain rfl:=iG.kJ h1;exact(abM k w ae ae hK).mono fun e w' h=>rd B w e w' hB h
theorem aj3(d:Dy)(k:Int):kC (canon d.neg d.m (d.e+k))=sK d k:=by unfold kC sK;split<;>simp_all
theorem aj4(d:Dy)(k:Int):mI (canon d.neg d.m (d.e+k))=BX d k:=by unfold mI BX;split<;>simp_all
open Go.RowKit Fp Pu
def iL(f:Nat->Rat):Nat->Rat
 | 0=>0
 |n+1=>iL f n+f n
theorem qd{f g:Nat->Rat}:∀ n,(∀ i,i<n->f i=g i)->iL f n=iL g n
 | 0,_=>rfl
 |n+1,h=>by rw[iL,iL,qd n (fun i hi=>h i ae),h n ae]
theorem B2{f g:Nat->Rat}:∀ n,(∀ i,i<n->f i<=g i)->iL f n<=iL g n
 | 0,_=>b9
 |n+1,h=>by
  have h1:=B2 n (fun i hi=>h i ae);have h2:=h n ae;rw[iL,iL];grind
theorem B3{f:Nat->Rat}(n:Nat)(h:∀ i,i<n->0<=f i):0<=iL f n:=by
 induction n with
 |zero=>exact b9
 |succ n ih=>
  have h1:=ih (fun i hi=>h i ae);have h2:=h n ae;rw[iL];grind
theorem AI(f:Nat->Rat)(c:Rat):∀ n,iL (fun i=>c*f i) n=c*iL f n
 | 0=>by simp[iL]
 |n+1=>by rw[iL,iL,AI f c n];grind
theorem DC(f:Nat->Rat)(c:Rat):∀ n,iL (fun i=>f i*c) n=iL f n*c
 | 0=>by simp[iL]
 |n+1=>by rw[iL,iL,DC f c n];grind
theorem FZ(f g:Nat->Rat):∀ n,iL (fun i=>f i+g i) n=iL f n+iL g n
 | 0=>by simp only[iL];grind
 |n+1=>by rw[iL,iL,iL,FZ f g n];grind
theorem F0(f:Nat->Nat->Rat)(m:Nat):∀ n,iL (fun i=>iL (fun j=>f i j) m) n=iL (fun j=>iL (fun i=>f i j) n) m
 | 0=>by
  have:∀ m,iL (fun _=>(0:Rat)) m=0:=by
   intro m
   induction m with
   |zero=>rfl
   |succ m ih=>rw[iL,ih];grind
  exact(this m).symm
 |n+1=>by
  rw[iL,F0 f m n,<-FZ];rfl
theorem XG(f:Nat->Rat):∀ n,iL f (n+1)=f 0+iL (fun i=>f (i+1)) n
 | 0=>by simp only[iL];grind
 |n+1=>by rw[iL,XG f n,iL];grind
def jc(x:Rat):Rat:=if 0<=x then x else -x
theorem mL(x:Rat):0<=jc x/\x<=jc x /\ -x<=jc x/\(jc x=x/\0<=x\/jc x = -x/\x<=0):=by unfold jc;split<;>grind
theorem xF{x b:Rat}(h1:x<=b)(h2:-x<=b):jc x<=b:=by unfold jc;split<;>grind
theorem Pa(x y:Rat):jc (x+y)<=jc x+jc y:=by
 obtain⟨a1,a2,a3,_⟩:=mL x;obtain⟨b1,b2,b3,_⟩:=mL y;exact xF aq aq 
theorem xG(x y:Rat):jc (x*y)=jc x*jc y:=by
 obtain⟨_,_,_,a⟩:=mL x;obtain⟨_,_,_,b⟩:=mL y;obtain⟨c1,_,_,c⟩:=mL (x*y);rcases a with⟨e1,h1⟩|⟨e1,h1⟩<;>rcases b with⟨e2,h2⟩|⟨e2,h2⟩<;>rw[e1,e2]
 .have:=bM h1 h2;grind
 .have:=bM h1 (show 0 <= -y by grind);grind
 .have:=bM (show 0 <= -x by grind) h2;grind
 .have:=bM (show 0 <= -x by grind) (show 0 <= -y by grind);grind
theorem B8(f:Nat->Rat):∀ n,jc (iL f n)<=iL (fun i=>jc (f i)) n
 | 0=>by simp[iL,jc]
 |n+1=>by
  have h1:=B8 f n;have h2:=Pa (iL f n) (f n);rw[iL,iL];grind
theorem Pb:jc 0=0:=rfl
abbrev QM:=Nat->Nat->Rat
def qi(n:Nat)(A B:QM):QM:=fun i j=>iL (fun q=>A i q*B q j) n
def xn:QM:=fun i j=>if i=j then 1 else 0
def TQ(n:Nat)(M:QM)(t:Rat):Nat->QM
 | 0=>xn
 |j+1=>fun i l=>t/((j+1:Nat):Rat)*qi n (TQ n M t j) M i l
def SQ(n:Nat)(M:QM)(t:Rat):Nat->QM
 | 0=>xn
 |j+1=>fun i l=>SQ n M t j i l+TQ n M t (j+1) i l
theorem Ve(j:Nat):(jD (j:Int)).jX ((j:Nat):Rat):=by have:=yK (j:Int);rwa[dI]at this
section
variable {m:List (List Iv)} {h:Iv} {M:QM} {t:Rat} {n p:Nat}
def y9(n:Nat)(A:QM)(b:Rat):Prop:=∀ i,i<n->iL (fun l=>jc (A i l)) n<=b
theorem ajO{A B:QM}{a b:Rat}(_h0:0<=a)(hb:0<=b)(h1:y9 n A a)(h2:y9 n B b):y9 n (qi n A B) (a*b):=by
 intro i hi;have e1:iL (fun l=>jc (qi n A B i l)) n<=iL (fun l=>iL (fun q=>jc (A i q)*jc (B q l)) n) n:=
  B2 n fun l _=>by
   have:=B8 (fun q=>A i q*B q l) n;rw[show(fun q=>jc (A i q*B q l))=fun q=>jc (A i q)*jc (B q l)from funext fun q=>xG _ _]at this;exact this
 rw[F0]at e1;have e2:iL (fun q=>iL (fun l=>jc (A i q)*jc (B q l)) n) n<=iL (fun q=>jc (A i q)*b) n:=
  B2 n fun q hq=>by
   rw[AI];exact cB (h2 q hq) (mL _).1
 rw[DC]at e2;exact bH e1 (bH e2 (b8 (h1 i hi) hb))
def eQ(c:Rat):Nat->Rat
 | 0=>1
 |j+1=>eQ c j*(c/((j+1:Nat):Rat))
theorem Ak(j:Nat):(0:Rat)<((j+1:Nat):Rat):=fl.2 ae 
theorem QV{a b:Rat}(h1:0<=a)(h2:0<b):0<=a/b:=by
 rw[cA];exact bM h1 (bA (fp.2 h2))
theorem uJ{c:Rat}(h:0<=c):∀ j,0<=eQ c j
 | 0=>by simp only[eQ];decide
 |j+1=>bM (uJ h j) (QV h (Ak j))
theorem akN(n i:Nat):iL (fun l=>jc (xn i l)) n<=1/\(n<=i->iL (fun l=>jc (xn i l)) n=0):=by
 induction n with
 |zero=>exact⟨by simp only[iL];grind,fun _=>rfl⟩
 |succ n ih=>
  have e1:jc 1=1:= ag ;simp only[iL,xn]at ih ⊢;by_cases h:i=n
  .have:=ih.2 ae 
   rw[this,aR h,e1];exact⟨aq,fun h'=>absurd h' ae⟩
  .rw [aQ h,Pb,Rat.add_zero]
   exact⟨ih.1,fun h'=>ih.2 ae⟩
theorem ajL{A:QM}{b:Rat}(h:y9 n A b){i l:Nat}(hi:i<n)(hl:l<n):jc (A i l)<=b:=by
 have h1:=h i hi;have:∀ m,l<m->jc (A i l)<=iL (fun l=>jc (A i l)) m:=by
  intro m hm
  induction m with
  |zero=>omega
  |succ m ih=>
   rw[iL];have h0:=B3 m (f:=fun l=>jc (A i l)) fun i _=>(mL _).1
   have h2:=(mL (A i m)).1;by_cases hq:l=m
   .subst hq;grind
   .have:=ih ae;grind
 exact bH (this n hl) h1
end
open Go.RowKit Fp Pu
theorem JH(g:Nat->Nat->Rat):∀ m,iL (fun j=>iL (g j) (m-j)) m=iL (fun s=>iL (fun j=>g j (s-j)) (s+1)) m
 | 0=>rfl
 |m+1=>by
  have ih:=JH g m;have e1:iL (fun j=>iL (g j) (m+1-j)) m=iL (fun j=>iL (g j) (m-j)+g j (m-j)) m:=
   qd m fun j hj=>by rw[show m+1-j=m-j+1 by omega];rfl
  have h1:iL (g m) (m+1-m)=g m 0:=by
   rw[show m+1-m=0+1 by omega];simp only[iL];grind
  have h2:iL (fun j=>g j (m-j)) (m+1)=iL (fun j=>g j (m-j)) m+g m (m-m):=rfl;show iL (fun j=>iL (g j) (m+1-j)) m+iL (g m) (m+1-m)=iL (fun s=>iL (fun j=>g j (s-j)) (s+1)) m+iL (fun j=>g j (m-j)) (m+1);rw[e1,FZ,h1,h2,ih,cT]
  grind
theorem F1{f:Nat->Rat}(h:∀ i,0<=f i){m k:Nat}(hk:m<=k):iL f m<=iL f k:=by
 induction k with
 |zero=>
  have:m=0:= ae ;rw[this];exact b9
 |succ k ih=>
  by_cases hm:m=k+1
  .rw [hm];exact b9
  .have:=ih ae 
   have:=h k;rw[iL];grind
theorem DE(f:Nat->Rat)(m:Nat):∀ d,iL f (m+d)=iL f m+iL (fun i=>f (m+i)) d
 | 0=>by simp only[iL,bt];grind
 |d+1=>by
  show iL f (m+d)+f (m+d)=_;rw[DE f m d,iL];grind
theorem Hc(c:Rat)(j:Nat):eQ c (j+1)*((j+1:Nat):Rat)=c*eQ c j:=by
 have h:c/((j+1:Nat):Rat)*((j+1:Nat):Rat)=c:=dm (by have:=Ak j;grind);simp only[eQ];grind
theorem GH(a b:Rat):∀ s,iL (fun j=>eQ b j*eQ a (s-j)) (s+1)=eQ (a+b) s
 | 0=>by
  show 0+eQ b 0*eQ a 0=1;simp only[eQ];grind
 |s+1=>by
  have ih:=GH a b s;have hp:=Ak s;have key:iL (fun j=>eQ b j*eQ a (s+1-j)) (s+2)*((s+1:Nat):Rat)=(a+b)*eQ (a+b) s:=by
   have e0:iL (fun j=>eQ b j*eQ a (s+1-j)) (s+2)*((s+1:Nat):Rat)=iL (fun j=>(j:Rat)*(eQ b j*eQ a (s+1-j))+eQ b j*(((s+1-j:Nat):Rat)*eQ a (s+1-j))) (s+2):=by
    rw[<-DC];refine qd _ fun j hj=>?_
    have:((s+1:Nat):Rat)=(j:Rat)+((s+1-j:Nat):Rat):=by rw[<-dK];congr 1;omega
    rw[this];grind
   rw[e0,FZ];have e1:iL (fun j=>(j:Rat)*(eQ b j*eQ a (s+1-j))) (s+2)=b*eQ (a+b) s:=by
    rw[XG,<-ih,<-AI];have z:(((0:Nat):Rat))=0:=rfl;rw[z,fP,Rat.zero_add];refine qd _ fun j hj=>?_
    have h1:=Hc b j;rw[show s+1-(j+1)=s-j by omega]
    grind
   have e2:iL (fun j=>eQ b j*(((s+1-j:Nat):Rat)*eQ a (s+1-j))) (s+2)=a*eQ (a+b) s:=by
    rw[show s+2=(s+1)+1 by omega,iL,cT,<-ih,<-AI];have z:(((0:Nat):Rat))=0:=rfl;rw[z,fP,Rat.mul_zero,Rat.add_zero];refine qd _ fun j hj=>?_
    have h1:=Hc a (s-j);rw[show s+1-j=s-j+1 by omega]
    grind
   rw[e1,e2];grind
  have h2:=Hc (a+b) s;have h3:iL (fun j=>eQ b j*eQ a (s+1-j)) (s+2)*((s+1:Nat):Rat)=eQ (a+b) (s+1)*((s+1:Nat):Rat):=by rw[key,h2]
  exact dL (ew (by rw[h3];exact b9) hp) (ew (by rw[h3];exact b9) hp)
theorem D7(c:Rat):∀ j,jc (eQ c j)=eQ (jc c) j
 | 0=>by simp only[eQ];decide
 |j+1=>by
  simp only[eQ];rw[xG,D7 c j];congr 1;rw[cA,cA,xG];congr 1;have:=fp.2 (Ak j);unfold jc;rw[aR (bA this)]
def ue(v:Rat):Nat->Rat
 | 0=>1
 |j+1=>ue v j*v
theorem Vy(v:Rat)(i:Nat):∀ j,ue v (i+j)=ue v i*ue v j
 | 0=>by simp only[ue,bt];grind
 |j+1=>by
  show ue v (i+j)*v=_;rw[Vy v i j,ue];grind
theorem Vz{v:Rat}(h:0<=v):∀ j,0<=ue v j
 | 0=>by simp only[ue];decide
 |j+1=>bM (Vz h j) h
theorem KY(c v:Rat):∀ j,eQ (c*v) j=eQ c j*ue v j
 | 0=>by simp only[eQ,ue];grind
 |j+1=>by
  simp only[eQ,ue];rw[KY c v j];simp only[cA];grind
theorem Pp(q:Rat):∃ n:Nat,q<=(n:Rat):=by
 refine⟨q.ceil.toNat,?_⟩;have h1:q<=(q.ceil:Rat):=Rat.le_ceil;have h2:((q.ceil:Int):Rat)<=((q.ceil.toNat:Nat):Rat):=by
  rw[<-dI,fM];omega
 exact bH h1 h2
theorem OC{z:Rat}{J:Nat}(hz:0<=z)(hJ:z*2<=(J:Rat)){m:Nat}(hm:J<=m):eQ z (m+1)*2<=eQ z m:=by
 have h0:=uJ hz m;have h1:=Hc z m;have hp:=Ak m;have Lu:z*2<=((m+1:Nat):Rat):=bH hJ (cX.2 ae);apply ew (c:=((m+1:Nat):Rat)) _ hp;have h2:=cB Lu h0
 grind
theorem OD{z:Rat}{J:Nat}(hz:0<=z)(hJ:z*2<=(J:Rat)){m:Nat}(hm:J<=m):∀ d,iL (fun i=>eQ z (m+i)) d+eQ z (m+d)*2<=eQ z m*2
 | 0=>by simp only[iL,bt];grind
 |d+1=>by
  have ih:=OD hz hJ hm d;have h1:=OC hz hJ (show J<=m+d by omega);rw[iL,show m+(d+1)=m+d+1 by omega]
  grind
theorem XL{z:Rat}{J:Nat}(hz:0<=z)(hJ:z*2<=(J:Rat)):∀ r:Nat,eQ z (J+r)*((2^r:Nat):Rat)<=eQ z J
 | 0=> aj 
 |r+1=>by
  have ih:=XL hz hJ r;have h1:=OC hz hJ (show J<=J+r by omega);have hp:(0:Rat)<=((2^r:Nat):Rat):=cF;have h2:=b8 h1 hp;rw[show(2^(r+1):Nat)=2^r*2 from aZ _ _,cO,show J+(r+1)=J+r+1 by omega];have e:((2:Nat):Rat)=2:=rfl;rw[e];grind
theorem XM{z ε:Rat}(hz:0<=z)(hε:0<ε):∃ m0,∀ m,m0<=m->∀ d,iL (fun i=>eQ z (m+i)) d<=ε:=by
 obtain⟨J,hJ⟩:=Pp (z*2);obtain⟨r,hr⟩:=Pp (eQ z J*2/ε);refine⟨J+r,fun m hm d=>?_⟩;obtain⟨t,rfl⟩:∃ t,m=J+t:=⟨m-J,ae⟩
 have h1:=OD hz hJ (show J<=J+t by omega) d;have h2:=XL hz hJ t;have h3:=uJ hz (J+t+d);have h4:=uJ hz (J+t);have rY:(r:Rat)<=((2^t:Nat):Rat):=cX.2 (cW (bQ (show r<=t by omega) Nat.lt_two_pow_self));have h5:eQ z J*2<=ε*((2^t:Nat):Rat):=by
  have h6:eQ z J*2/ε*ε=eQ z J*2:=dm aq;have h7:=b8 (bH hr rY) (bA hε)
  grind
 have hp:(0:Rat)<((2^t:Nat):Rat):=fl.2 (aY ag);have h8:eQ z (J+t)*2<=ε:=by
  apply ew (c:=((2^t:Nat):Rat)) _ hp
  grind
 grind
def MP(n:Nat)(M:QM):Nat->QM
 | 0=>xn
 |j+1=>qi n (MP n M j) M
section
variable {n:Nat} {M:QM}
theorem J6(t:Rat):∀ j i l,TQ n M t j i l=eQ t j*MP n M j i l
 | 0,i,l=>by simp only[TQ,eQ,MP];grind
 |j+1,i,l=>by
  show t/((j+1:Nat):Rat)*iL (fun q=>TQ n M t j i q*M q l) n=eQ t j*(t/((j+1:Nat):Rat))*iL (fun q=>MP n M j i q*M q l) n;rw[qd n fun q _=>show TQ n M t j i q*M q l=eQ t j*(MP n M j i q*M q l)by rw[J6 t j i q];grind,AI]
  grind
theorem DM(t:Rat)(i l:Nat):∀ N,SQ n M t N i l=iL (fun j=>eQ t j*MP n M j i l) (N+1)
 | 0=>by simp only[SQ,iL,eQ,MP];grind
 |N+1=>by
  show SQ n M t N i l+TQ n M t (N+1) i l=_;rw[DM t i l N,J6];rfl
theorem agG(A:QM)(i:Nat){l:Nat}(hl:l<n):qi n A xn i l=A i l:=by
 have:∀ m,iL (fun q=>A i q*xn q l) m=if l<m then A i l else 0:=by
  intro m
  induction m with
  |zero=>simp[iL]
  |succ m ih=>
   rw[iL,ih];unfold xn;by_cases h1:l<m
   .rw [aR h1,aQ (show ¬m=l by omega),aR (show l<m+1 by omega)];grind
   .by_cases h2:m=l
    .subst h2;rw[aQ h1,aR rfl,aR (show m<m+1 by omega)];grind
    .rw [aQ h1,aQ h2,aQ (show ¬l<m+1 by omega)];grind
 unfold qi;rw[this,aR hl]
theorem agF(A B C:QM)(i l:Nat):qi n A (qi n B C) i l=qi n (qi n A B) C i l:=by
 unfold qi;have e1:∀ q,A i q*iL (fun r=>B q r*C r l) n=iL (fun r=>A i q*(B q r*C r l)) n:=fun q=>(AI _ _ n).symm
 have e2:∀ r,iL (fun q=>A i q*B q r) n*C r l=iL (fun q=>A i q*B q r*C r l) n:=fun r=>(DC _ _ n).symm
 rw[qd n fun q _=>e1 q,qd (f:=fun q=>iL (fun q_1=>A i q_1*B q_1 q) n*C q l) n fun r _=>e2 r,F0];exact qd n fun r _=>qd n fun q _=> aq 
theorem OV(j:Nat):∀ k i l,l<n->qi n (MP n M j) (MP n M k) i l=MP n M (j+k) i l
 | 0,i,l,hl=>agG _ i hl
 |k+1,i,l,hl=>by
  show qi n (MP n M j) (qi n (MP n M k) M) i l=qi n (MP n M (j+k)) M i l;rw[agF];exact qd n fun q hq=>by rw[OV j k i q hq]
theorem OW{v:Rat}(hv:0<=v)(h:y9 n M v):∀ j,y9 n (MP n M j) (ue v j)
 | 0=>fun i _=>(akN n i).1
 |j+1=>ajO (Vz hv j) hv (OW hv h j) h
theorem ajM(n:Nat)(M:QM):∃ v,0<=v/\y9 n M v:=by
 refine⟨iL (fun i=>iL (fun l=>jc (M i l)) n) n,B3 n fun i _=>B3 n fun l _=>(mL _).1,fun i hi=>?_⟩;have:∀ m,i<m->iL (fun l=>jc (M i l)) n<=iL (fun i=>iL (fun l=>jc (M i l)) n) m:=by
  intro m hm
  induction m with
  |zero=>omega
  |succ m ih=>
   rw[iL];have h0:0<=iL (fun l=>jc (M m l)) n:=B3 n fun l _=>(mL _).1
   have h1:0<=iL (fun i=>iL (fun l=>jc (M i l)) n) m:=B3 m fun i _=>B3 n fun l _=>(mL _).1
   by_cases hq:i=m
   .subst hq;grind
   .have:=ih ae;grind
 exact this n hi
theorem ahG(a b:Rat)(N:Nat)(i:Nat){l:Nat}(hl:l<n):qi n (SQ n M b N) (SQ n M a N) i l=iL (fun j=>iL (fun k=>eQ b j*eQ a k*MP n M (j+k) i l) (N+1)) (N+1):=by
 unfold qi;have e1:∀ q,SQ n M b N i q*SQ n M a N q l=iL (fun j=>iL (fun k=>eQ b j*eQ a k*(MP n M j i q*MP n M k q l)) (N+1)) (N+1):=by
  intro q;rw[DM,DM,<-DC];refine qd _ fun j _=>?_
  rw[<-AI];exact qd _ fun k _=> aq 
 rw[qd n fun q _=>e1 q,F0];refine qd _ fun j _=>?_
 rw[F0];refine qd _ fun k _=>?_
 rw[<-OV j k i l hl,AI];rfl
theorem alp(a b:Rat)(N:Nat)(i l:Nat):iL (fun j=>iL (fun k=>eQ b j*eQ a k*MP n M (j+k) i l) (N+1-j)) (N+1)=SQ n M (a+b) N i l:=by
 rw[JH (fun j k=>eQ b j*eQ a k*MP n M (j+k) i l),DM];refine qd _ fun s _=>?_
 rw[<-GH,<-DC];exact qd _ fun j hj=>by rw[show j+(s-j)=s by omega]
theorem Xv(g:Nat->Nat->Rat)(m:Nat):iL (fun j=>iL (g j) m) m=iL (fun j=>iL (g j) (m-j)) m+iL (fun j=>iL (fun k=>g j (m-j+k)) j) m:=by
 rw[<-FZ];refine qd _ fun j hj=>?_
 rw[<-DE,show m-j+j=m by omega]
theorem adX{v:Rat}(hv:0<=v)(h:y9 n M v)(a b:Rat)(N:Nat){i l:Nat}(hi:i<n)(hl:l<n):
 jc (qi n (SQ n M b N) (SQ n M a N) i l-SQ n M (a+b) N i l)<=iL (fun s=>eQ (jc a*v+jc b*v) (N+1+s)) (N+1):=by
 have hx:0<=jc a*v:=bM (mL a).1 hv;have hy:0<=jc b*v:=bM (mL b).1 hv;have e1:qi n (SQ n M b N) (SQ n M a N) i l=SQ n M (a+b) N i l+iL (fun j=>iL (fun k=>eQ b j*eQ a (N+1-j+k)*MP n M (j+(N+1-j+k)) i l) j) (N+1):=by
  have:=Xv (fun j k=>eQ b j*eQ a k*MP n M (j+k) i l) (N+1);rw[alp,<-ahG a b N i hl]at this;exact this
 have e2:qi n (SQ n M b N) (SQ n M a N) i l-SQ n M (a+b) N i l=iL (fun j=>iL (fun k=>eQ b j*eQ a (N+1-j+k)*MP n M (j+(N+1-j+k)) i l) j) (N+1):= aq ;rw[e2];have e3:jc (iL (fun j=>iL (fun k=>eQ b j*eQ a (N+1-j+k)*MP n M (j+(N+1-j+k)) i l) j) (N+1))<=iL (fun j=>iL (fun k=>eQ (jc b*v) j*eQ (jc a*v) (N+1-j+k)) j) (N+1):=by
  refine bH (B8 _ _) (B2 _ fun j _=>bH (B8 _ _) (B2 _ fun k _=>?_));rw[xG,xG,D7,D7,KY,KY];have hr:=ajL (OW hv h (j+(N+1-j+k))) hi hl;rw[Vy]at hr;have h1:=uJ (mL b).1 j;have h2:=uJ (mL a).1 (N+1-j+k);have h3:=cB hr (bM h1 h2)
  grind
 refine bH e3 ?_;have q1:iL (fun j=>iL (fun k=>eQ (jc b*v) j*eQ (jc a*v) k) (N+1)) (N+1)=iL (fun j=>iL (fun k=>eQ (jc b*v) j*eQ (jc a*v) k) (N+1-j)) (N+1)+iL (fun j=>iL (fun k=>eQ (jc b*v) j*eQ (jc a*v) (N+1-j+k)) j) (N+1):=
  Xv (fun j k=>eQ (jc b*v) j*eQ (jc a*v) k) (N+1)
 have q2:iL (fun j=>iL (fun k=>eQ (jc b*v) j*eQ (jc a*v) k) (N+1-j)) (N+1)=iL (fun s=>eQ (jc a*v+jc b*v) s) (N+1):=by
  rw[JH (fun j k=>eQ (jc b*v) j*eQ (jc a*v) k)];exact qd _ fun s _=>GH _ _ s
 have G0:∀ j k,0<=eQ (jc b*v) j*eQ (jc a*v) k:=fun j k=>bM (uJ hy j) (uJ hx k)
 have q3:iL (fun j=>iL (fun k=>eQ (jc b*v) j*eQ (jc a*v) k) (N+1)) (N+1)<=iL (fun s=>eQ (jc a*v+jc b*v) s) (N+1+(N+1)):=by
  rw[<-qd (f:=fun s=>iL (fun j=>eQ (jc b*v) j*eQ (jc a*v) (s-j)) (s+1)) _ fun s _=>GH _ _ s,<-JH (fun j k=>eQ (jc b*v) j*eQ (jc a*v) k)];refine bH (B2 _ fun j hj=>F1 (fun k=>G0 j k) (show N+1<=N+1+(N+1)-j by omega)) ?_;exact F1 (fun j=>B3 _ fun k _=>G0 j k) ae 
 rw[DE (fun s=>eQ (jc a*v+jc b*v) s) (N+1) (N+1),q1,q2]at q3;have cancel:∀ A B C:Rat,A+B<=A+C->B<=C:=by intro A B C h;grind
 exact cancel _ _ _ q3
theorem adY(n:Nat)(M:QM)(a b:Rat){ε:Rat}(hε:0<ε):∃ N0,∀ N,N0<=N->∀ i l,i<n->l<n->jc (qi n (SQ n M b N) (SQ n M a N) i l-SQ n M (a+b) N i l)<=ε:=by
 obtain⟨v,hv,h⟩:=ajM n M;have hz:0<=jc a*v+jc b*v:=by
  have hx:0<=jc a*v:=bM (mL a).1 hv;have hy:0<=jc b*v:=bM (mL b).1 hv
  grind
 obtain⟨m0,h0⟩:=XM hz hε;exact⟨m0,fun N hN i l hi hl=>bH (adX hv h a b N hi hl) (h0 (N+1) ae (N+1))⟩
theorem YL(N:Nat)(i l:Nat):SQ n M 0 N i l=xn i l:=by
 induction N with
 |zero=>rfl
 |succ N ih=>
  show SQ n M 0 N i l+TQ n M 0 (N+1) i l=_;rw[ih,J6];simp only[eQ,cA];grind
end
open Go.RowKit Fp Pu
def pf(f:Nat->Rat)(X:Iv):Prop:=∀ ε,0<ε->∃ N0,∀ N,N0<=N->∃ r,X.jX r/\jc (f N-r)<=ε
theorem pf.Nl{f:Nat->Rat}{X:Iv}{k:Nat}(h:∀ N,k<=N->X.jX (f N)):pf f X:=fun ε hε=>
 ⟨k,fun N hN=>⟨f N,h N hN,by rw[Rat.sub_self,Pb];exact bA hε⟩⟩
theorem pf.all{f:Nat->Rat}{X:Iv}(h:X.all=true):pf f X:=pf.Nl (k:=0) fun _ _=>.inl h
theorem pf.shift{f g:Nat->Rat}{X:Iv}(h:pf f X)(k:∀ ε,0<ε->∃ N0,∀ N,N0<=N->jc (g N-f N)<=ε):pf g X:=fun ε hε=>by
 obtain⟨N1,h1⟩:=h (ε/2) aq;obtain⟨N2,h2⟩:=k (ε/2) aq;refine⟨max N1 N2,fun N hN=>?_⟩;obtain⟨r,hr,hd⟩:=h1 N ae;have hg:=h2 N ae;refine⟨r,hr,?_⟩;have:=Pa (g N-f N) (f N-r);rw[show g N-f N+(f N-r)=g N-r by grind]at this
 grind
def EQ(c:Rat)(N:Nat):Rat:=iL (eQ c) (N+1)
theorem ahf(j:Nat):MP 1 (fun _ _=>1) j 0 0=1:=by
 induction j with
 |zero=>rfl
 |succ j ih=>
  show iL (fun q=>MP 1 (fun _ _=>1) j 0 q*1) 1=1;simp only[iL];rw[ih];grind
theorem Gp(c:Rat)(N:Nat):SQ 1 (fun _ _=>1) c N 0 0=EQ c N:=by
 rw[DM];exact qd _ fun j _=>by rw[ahf];grind
theorem J0(a b:Rat){ε:Rat}(hε:0<ε):∃ N0,∀ N,N0<=N->jc (EQ (a+b) N-EQ a N*EQ b N)<=ε:=by
 obtain⟨N0,h0⟩:=adY 1 (fun _ _=>1) a b hε;refine⟨N0,fun N hN=>?_⟩;have:=h0 N hN 0 0 ag ag;rw[show qi 1 (SQ 1 (fun _ _=>1) b N) (SQ 1 (fun _ _=>1) a N) 0 0=EQ a N*EQ b N by
  show iL (fun q=>SQ 1 (fun _ _=>1) b N 0 q*SQ 1 (fun _ _=>1) a N q 0) 1=_;simp only[iL];rw[Gp,Gp];grind,Gp]at this
 obtain⟨_,a2,a3,_⟩:=mL (EQ a N*EQ b N-EQ (a+b) N);exact xF aq aq 
theorem YC(N:Nat):EQ 0 N=1:=by
 rw[<-Gp,YL];rfl
theorem Pt{x:Iv}{r s:Rat}(hx:x.ib)(h:x.jX r)(hs:jc s<=jc r):(qH x).jX s:=by
 unfold qH;cases xa:x.all
 .obtain ⟨h1,h2⟩:=h.jZ xa
  obtain⟨m1,m2,_⟩:=BC hx.q;obtain⟨_,a2,a3,a4⟩:=mL r;obtain⟨_,b2,b3,_⟩:=mL s;have hr:jc r<=(mu x).q:= aq ;refine .inr ⟨?_,?_⟩
  .show (iF (mu x)).q<=s
   rw[oE];grind
  .show s<=(mu x).q
   grind
 .rw [aR rfl];exact .inl xa
theorem DK{a b:Int}(h:a<=b):P2 a<=P2 b:=by
 rw[DL h];have h1:(1:Rat)<=((2^(b-a).toNat:Nat):Rat):=by
  have:=cX.2 (Nat.one_le_two_pow (n:=(b-a).toNat));exact this
 have:=b8 h1 (bA (mY a))
 grind
open Go.RowKit Fp Pu
theorem JN{i:Nat}(h:i<2):i=0\/i=1:= ae 
open Go.RowKit Fp Pu
open Go.RowKit Fp Pu
def YD:Dy:=⟨false,1014047155841371404857783918912611814895143950022408150448898879701903863171748812343190420115852101928445847465915947005,-398⟩
def YE:Dy:=⟨false,2028094311682742809715567837825223629790287900044816300897797759403807726343497624686380840231704203856891694931831894109,-399⟩
def HF:Iv:=⟨YD,YE,false⟩
theorem after{N:Nat}(h:100<=N):∃ d,N=100+d:=⟨N-100,ae⟩
def zq(k:Int):Rat×Rat:=if k%4=0 then(1,0)else if k%4=1 then(0,1)else if k%4=2 then(-1,0)else(0,-1)
open Go.RowKit Fp Pu
def lk(r:Iv)(p:Nat):Nat->Iv
 | 0=>jD 1
 |j+1=>jS (iN (lk r p j) r p) (jD ((j+1:Nat):Int)) p
def Of(r:Iv)(p j:Nat):Iv:=if 2<=j%4 then qD (lk r p j)else lk r p j
def Jy(r:Iv)(p:Nat):Nat->Iv
 | 0=>jD 0
 |j+1=>if(j+1)%2=1 then jj (Jy r p j) (Of r p (j+1)) p else Jy r p j
theorem qE(n:Int):(pN n).q=P2 n:=by unfold pN;rw[qF];simp
theorem vt{r:Iv}{p:Nat}(_hr:r.ib)(il:8<=p)(ic:p<=512):∀ j,(lk r p j).ib
 | 0=>BG 1 ag 
 |j+1=>vG _ _ ae ae 
theorem aj7{r:Iv}{p:Nat}(hr:r.ib)(il:8<=p)(ic:p<=512)(j:Nat):(Of r p j).ib:=by
 unfold Of;split
 .exact Fk (vt hr il ic j)
 .exact vt hr il ic j
theorem W5{r:Iv}{p:Nat}(hr:r.ib)(il:8<=p)(ic:p<=512):∀ j,(Jy r p j).ib
 | 0=>BG 0 ag 
 |j+1=>by
  unfold Jy;split
  .exact rT (W5 hr il ic j) (aj7 hr il ic _) ae ae 
  .exact W5 hr il ic j
theorem Og{r:Iv}{p:Nat}(hr:r.ib)(il:8<=p)(ic:p<=512){ρ:Rat}(h:r.jX ρ):∀ j,j<4294967296->(lk r p j).jX (eQ ρ j)
 | 0,_=>yK 1
 |j+1,hj=>by
  have e:eQ ρ (j+1)=eQ ρ j*ρ/((j+1:Nat):Rat):=by simp only[eQ,cA];grind
  rw[e];exact G4 (qC _ _ ae ae) (Nf (j+1) hj) ae ae (IZ (vt hr il ic j) hr ae ae (Og hr il ic h j ae) h) (Ve (j+1))
theorem W6{r:Iv}{p:Nat}:∀ {j d:Nat},(lk r p (j+d)).all=false->(lk r p j).all=false
 |_,0,h=>h
 |j,d+1,h=>by
  apply W6 (d:=d);cases ha:(lk r p (j+d)).all
  .rfl
  .exfalso
   have:lk r p (j+(d+1))=ie:=by
    show jS (iN (lk r p (j+d)) r p) _ p=_;rw[I0 p (.inl ha),D3 p (.inl rfl)]
   rw[this]at h;cases h
open Go.RowKit Fp Pu
def pj(n:Int):Iv:=⟨iF (pN n),pN n,false⟩
theorem Ce{n:Int}{r:Rat}:(pj n).jX r ↔ -P2 n<=r/\r<=P2 n:=by
 unfold Iv.jX pj;simp only[bq,false_or];rw[oE,qE]
theorem y8{p:Nat}(hp:1<=p){n:Int}(h1:-1000<=n)(h2:n<=1000):G p (P2 n):=.inl ⟨1,n,by rw[uE];exact hp,ae,by rw[uE];omega,aj⟩
theorem DT{p:Nat}{S:Rat->Prop}{X:Iv}(h:DJ p S X)(hp:1<=p){n:Int}(h1:-1000<=n)(h2:n<=1000)(hs:∀ r,S r -> -P2 n<=r/\r<=P2 n):Sub X (pj n):=by
 obtain⟨a,b,c⟩:=h.xj _ _ (y8 hp h1 h2).neg (y8 hp h1 h2) hs;refine .inr ⟨a,?_,?_⟩
 .show (iF (pN n)).q<=_
  rw[oE,qE];exact b
 .show _<=(pN n).q
  rw[qE];exact c
theorem Pc{a b u v:Rat}(h1:-u<=a)(h2:a<=u)(h3:-v<=b)(h4:b<=v):-(u*v)<=a*b/\a*b<=u*v:=by
 have ha:jc a<=u:=xF h2 aq;have hb:jc b<=v:=xF h4 aq;have hm:=xG a b;have h0:=(mL b).1;have hu:0<=u:=bH (mL a).1 ha;have m1:=b8 ha h0;have m2:=cB hb hu;obtain⟨_,c2,c3,_⟩:=mL (a*b);constructor<;>grind
theorem Sw(j:Nat):P2 (-(j:Int))*P2 (-1)=P2 (-((j+1:Nat):Int)):=by
 rw[<-qe];congr 1;omega
theorem abw{a u:Rat}{n:Nat}(h1:-u<=a)(h2:a<=u):-u<=a/((n+1:Nat):Rat)/\a/((n+1:Nat):Rat)<=u:=by
 have hp:=Ak n;have R5:(1:Rat)<=((n+1:Nat):Rat):=by
  have:=cX (a:=1) (b:=n+1);exact this.2 ae 
 have e:=dm (a:=a) (b:=((n+1:Nat):Rat)) aq;have hu:0<=u:= aq ;generalize a/((n+1:Nat):Rat)=x at *
 generalize ((n+1:Nat):Rat)=c at *
 constructor
 .apply dp.1
  intro iD;have m:=dM iD hp;have m2:=cB R5 hu
  grind
 .apply dp.1
  intro iD;have m:=dM iD hp;have m2:=cB R5 hu
  grind
theorem W8{y:Iv}(hy:y.ib)(h:Sub y (pj (-1))){p:Nat}(il:8<=p)(ic:p<=512):∀ j,j<=900->Sub (lk y p j) (pj (-(j:Int)))
 | 0,_=>by
  have e:(jD 1).lo.q=1/\(jD 1).hi.q=1/\(jD 1).all=false:=Vd 1;refine .inr ⟨e.2.2,?_,?_⟩
  .show (iF (pN _)).q<=_
   rw[oE,qE,show(lk y p 0).lo.q=1 from e.1];decide +kernel
  .show _<=(pN _).q
   rw[qE,show(lk y p 0).hi.q=1 from e.2.1];decide +kernel
 |j+1,hj=>by
  have ih:=W8 hy h il ic j ae;have vT:=vt hy il ic j;obtain⟨ta,_⟩:=ih.wh rfl;obtain⟨ya,_⟩:=h.wh rfl;have B:=M3 vT hy ta ya (show 1<=p by omega) ae;have s1:Sub (iN (lk y p j) y p) (pj (-((j+1:Nat):Int))):=DT B ae ae ae (by
   rintro r ⟨a,b,ha,hb,rfl⟩;obtain⟨a1,a2⟩:=Ce.1 (ih.jX ha);obtain⟨b1,b2⟩:=Ce.1 (h.jX hb);rw[<-Sw];exact Pc a1 a2 b1 b2)
  have vm:(iN (lk y p j) y p).ib:=qC _ _ ae ae;obtain⟨ma,_⟩:=s1.wh rfl;have vn:=Nf (j+1) ae;have hs:lL (jD ((j+1:Nat):Int))≠0:=by rw[ahd ae];decide
  exact DT (G3 vm vn ma hs (show 1<=p by omega) ae) ae ae ae (by
   rintro r ⟨a,b,ha,hb,rfl⟩;obtain⟨a1,a2⟩:=Ce.1 (s1.jX ha);obtain⟨b1,b2⟩:=hb.jZ rfl;have e:=Vd (j+1);rw[e.1]at b1;rw[e.2.1]at b2;rw[show b=((j+1:Nat):Rat)from dL b2 b1];exact abw a1 a2)
def oz(x:Iv)(p:Nat):Bool:=x.all||(decide ((mu x).m=0)||decide ((mu x).iu <= -(p:Int)))
theorem XY{d:Dy}(hm:d.m≠0){n:Int}(h:jc d.q<=P2 n):d.iu<=n+1:=by
 apply bE;intro iD;have hT:d.iu=(ia d.m:Int)+d.e:=by unfold Dy.iu;rw[aQ hm]
 have hb:0<ia d.m:=r7.2 (by rw[bN];omega);have h1:2^(ia d.m-1)<=d.m:=r7.1 ae;have h2:((2^(ia d.m-1):Nat):Rat)<=(d.m:Rat):=cX.2 h1;have h3:=b8 h2 (bA (mY d.e));rw[<-uA,<-qe,show((ia d.m-1:Nat):Int)+d.e=d.iu-1 by rw[hT];omega]at h3;have h4:jc d.q=(d.m:Rat)*P2 d.e:=by
  have h0:0<=(d.m:Rat)*P2 d.e:=bM cF (bA (mY _));rw[ql];unfold jc;cases d.neg
  .simp only[bq,a6];rw[aR h0]
  .simp only[bk]
   split<;>grind
 have h5:=DK (show n+1<=d.iu-1 by omega);have h6:P2 (n+1)=P2 n*2:=by rw[qe];congr 1
 have:=mY n
 grind
theorem XU{x:Iv}(hx:x.ib){p:Nat}(h:Sub x (pj (-((p+1:Nat):Int)))):oz x p=true:=by
 unfold oz;cases ha:x.all
 .by_cases hm:(mu x).m=0
  .rw [aS hm];rfl
  .obtain ⟨_,k1,k2⟩:=h.wh rfl
   obtain⟨m1,m2,m3⟩:=BC hx.q;replace k1:(iF (pN (-((p+1:Nat):Int)))).q<=x.lo.q:=k1;replace k2:x.hi.q<=(pN (-((p+1:Nat):Int))).q:=k2;rw[oE,qE]at k1;rw[qE]at k2;have hq:=hx.q;have pR:=mY (-((p+1:Nat):Int));generalize hu:P2 (-((p+1:Nat):Int))=u at *
   have hle:jc (mu x).q<=u:=xF (by rcases m3 with m3|m3<;>grind) (by rcases m3 with m3|m3<;>grind);have:=XY hm (hu▸hle);rw[aS (show(mu x).iu <= -(p:Int)by omega)];simp
 .rfl
theorem W7{y:Iv}(h:y.all=true)(p:Nat):lk y p 1=ie:=by
 show jS (iN (jD 1) y p) _ p=_;rw[I0 p (.inr h),D3 p (.inl rfl)]
theorem acI{y:Iv}(hy:y.ib)(h:y.all=true\/Sub y (pj (-1))){p:Nat}(il:8<=p)(ic:p<=512):∃ N,1<=N/\N<=1000/\(∀ x,1<=x->x<N->oz (lk y p x) p=false)/\oz (lk y p N) p=true:=by
 have ex:∃ x,x<900/\decide (1<=x/\oz (lk y p x) p=true)=true:=by
  rcases h with h|h
  .exact ⟨1,ae,aS ⟨ae,by rw[W7 h];rfl⟩⟩
  .exact ⟨p+1,ae,aS ⟨ae,XU (vt hy il ic _) (W8 hy h il ic (p+1) ae)⟩⟩
 obtain⟨N,n1,n2,n3⟩:=qB (p:=fun x=>decide (1<=x/\oz (lk y p x) p=true)) ex;have n2':=ct n2;refine⟨N,n2'.1,ae,fun x h1 h2=>?_,n2'.2⟩;have:=fu (n3 x h2);cases hc:oz (lk y p x) p
 .rfl
 .exact absurd ⟨h1,hc⟩ this
def sV(y:Iv)(p:Nat):Nat->Iv
 | 0=>jD 1
 |j+1=>jj (sV y p j) (lk y p (j+1)) p
def xS(y:Iv)(p N:Nat):Iv:=jj (sV y p N) (qH (lk y p N)) p
theorem Cq{y:Iv}(hy:y.ib){p:Nat}(il:8<=p)(ic:p<=512):∀ j,(sV y p j).ib
 | 0=>BG 1 ag 
 |j+1=>rT (Cq hy il ic j) (vt hy il ic _) ae ae 
theorem acH{y:Iv}(hy:y.ib){p:Nat}(il:8<=p)(ic:p<=512)(N:Nat):(xS y p N).ib:=rT (Cq hy il ic N) (Cc (vt hy il ic N)) ae ae 
open Go.RowKit Fp Pu
def lK(x:Iv)(p:Nat):Iv:=if x.all then ie else kE (jh x.lo p false) (jz x.lo p false) (jh x.hi p true) (jz x.hi p true)
def tA(a b:Iv):Iv:=if a.all||b.all then ie else⟨a.lo,b.hi,false⟩
theorem Ds{x:Iv}(hx:x.ib){p:Nat}(hp:1<=p)(ic:p<=4096):(lK x p).ib:=by
 unfold lK;cases xa:x.all
 .obtain ⟨c1,c2⟩:=hx.xN
  simp only[bq,a6];unfold kE;split
  .exact mh
  .rename_i he
   have A:=wq c1 hp ic;have B:=wu c2 hp ic;refine .inr ⟨rfl,wA _ hp ic _,wA _ hp ic _,?_⟩;rw[o0];exact bH (A.1 ae).2 (bH hx.q (B.1 ae).2)
 .exact mh
theorem FR{x:Iv}(hx:x.ib){p:Nat}(hp:1<=p)(ic:p<=4096){r:Rat}(h:x.jX r):(lK x p).jX r:=by
 unfold lK;cases xa:x.all
 .obtain ⟨c1,c2⟩:=hx.xN
  obtain⟨h1,h2⟩:=h.jZ xa;simp only[bq,a6];unfold kE;split
  .exact .inl rfl
  .rename_i he
   have A:=wq c1 hp ic;have B:=wu c2 hp ic;exact .inr ⟨bH (A.1 ae).2 h1,bH h2 (B.1 ae).2⟩
 .exact .inl rfl
theorem ajJ{x:Iv}(hx:x.ib){p:Nat}(hp:1<=p)(ic:p<=4096){n:Int}(h1:-1000<=n)(h2:n<=1000)(h:Sub x (pj n)):Sub (lK x p) (pj n):=by
 obtain⟨xa,k1,k2⟩:=h.wh rfl;replace k1:(iF (pN n)).q<=x.lo.q:=k1;replace k2:x.hi.q<=(pN n).q:=k2;rw[oE,qE]at k1;rw[qE]at k2;obtain⟨c1,c2⟩:=hx.xN;have A:=(wq c1 hp ic).2 _ (y8 hp h1 h2).neg k1;have B:=(wu c2 hp ic).2 _ (y8 hp h1 h2) k2;unfold lK kE;rw[xa];simp only[bq,a6];rw[aQ ae];refine .inr ⟨rfl,?_,?_⟩
 .show (iF (pN n)).q<=_
  rw[oE,qE];exact A.2
 .show _<=(pN n).q
  rw[qE];exact B.2
theorem af7{f g:Nat->Rat}{A B:Iv}(hA:pf f A)(hB:pf g B)(h:∀ ε,0<ε->∃ N0,∀ N,N0<=N->f N<=g N+ε)(aa:A.all=false)(ba:B.all=false):A.lo.q<=B.hi.q:=by
 apply dp.1;intro iD;obtain⟨ε,hε⟩:∃ ε,ε=(A.lo.q-B.hi.q)/4:=⟨_,rfl⟩
 have h0:0<ε:=by rw[hε];grind
 obtain⟨N1,h1⟩:=hA ε h0;obtain⟨N2,h2⟩:=hB ε h0;obtain⟨N3,h3⟩:=h ε h0;obtain⟨r,hr,hd⟩:=h1 (max N1 (max N2 N3)) ae;obtain⟨s,hs,he⟩:=h2 (max N1 (max N2 N3)) ae;have h4:=h3 (max N1 (max N2 N3)) ae;obtain⟨r1,r2⟩:=hr.jZ aa;obtain⟨s1,s2⟩:=hs.jZ ba;obtain⟨_,a2,a3,_⟩:=mL (f (max N1 (max N2 N3))-r);obtain⟨_,b2,b3,_⟩:=mL (g (max N1 (max N2 N3))-s)
 grind
theorem YB{c:Rat}(h:0<=c)(N:Nat):1<=EQ c N:=by
 have:=F1 (f:=eQ c) (fun i=>uJ h i) (show 1<=N+1 by omega);have e:iL (eQ c) 1=1:=by show 0+1=1;grind
 unfold EQ;rw[e]at this;exact this
theorem YA(c:Rat){ε:Rat}(hε:0<ε):∃ N0,∀ N,N0<=N -> -ε<=EQ c N:=by
 obtain⟨N0,h0⟩:=J0 (c/2) (c/2) hε;rw[show c/2+c/2=c by grind]at h0;refine⟨N0,fun N hN=>?_⟩;have h:=h0 N hN;have hs:0<=EQ (c/2) N*EQ (c/2) N:=by
  by_cases k:0<=EQ (c/2) N
  .exact bM k k
  .have:=bM (show 0 <= -EQ (c/2) N by grind) (show 0 <= -EQ (c/2) N by grind)
   grind
 obtain⟨_,a2,a3,_⟩:=mL (EQ c N-EQ (c/2) N*EQ (c/2) N)
 grind
theorem Yx{c:Rat}(h:0<=c):∃ M:Rat,0<M/\∀ N,EQ c N<=M:=by
 obtain⟨m0,h0⟩:=XM h (show(0:Rat)<1 by decide);have hs:0<=iL (eQ c) m0:=by
  have:=F1 (f:=eQ c) (fun i=>uJ h i) (bL m0);exact this
 refine⟨iL (eQ c) m0+1,aq,fun N=>?_⟩;unfold EQ;by_cases hN:m0<=N+1
 .obtain ⟨d,hd⟩:∃ d,N+1=m0+d:=⟨N+1-m0,ae⟩
  rw[hd,DE];have:=h0 m0 (aU _) d
  grind
 .have:=F1 (f:=eQ c) (fun i=>uJ h i) (show N+1<=m0 by omega)
  grind
theorem Yz{a b:Rat}(h:a<=b){ε:Rat}(hε:0<ε):∃ N0,∀ N,N0<=N->EQ a N<=EQ b N+ε:=by
 have hd:0<=b-a:= aq ;obtain⟨N1,h1⟩:=J0 a (b-a) (show 0<ε/2 by grind);rw[show a+(b-a)=b by grind]at h1;obtain⟨M,sC,hM⟩:∃ M:Rat,0<M/\∀ N,EQ (b-a) N<=M:=Yx hd;obtain⟨N2,h2⟩:=YA a (show 0<ε/(2*M)by rw[cA];exact dJ hε (fp.2 aq));refine⟨max N1 N2,fun N hN=>?_⟩;have k1:=h1 N ae;have k2:=h2 N ae;have e:ε/(2*M)*M=ε/2:=by
  have:=dm (a:=ε) (b:=2*M) aq 
  grind
 have k3:=YB hd N;have k4:=hM N;obtain⟨_,a2,a3,_⟩:=mL (EQ b N-EQ a N*EQ (b-a) N);generalize EQ a N=x at *
 generalize EQ (b-a) N=y at *
 generalize EQ b N=z at *
 generalize ε/(2*M)=δ at *
 have m1:=bM (show 0<=x+δ by grind) (show 0<=y-1 by grind);have hδ:0<=δ:=by
  apply dp.1;intro iD;have:=dM iD sC
  grind
 have m2:=cB (show y-1<=M by grind) hδ
 grind
open Go.RowKit Fp Pu
theorem Ry{y:Iv}{r:Rat}(hy:y.ib)(h:y.jX r){p:Nat}(il:8<=p)(ic:p<=512):∀ j,j<4294967296->(sV y p j).jX (EQ r j)
 | 0,_=>by
  have:EQ r 0=1:=by unfold EQ;simp only[iL,eQ];grind
  rw[this];exact yK 1
 |j+1,hj=>xH (Cq hy il ic j) (vt hy il ic (j+1)) ae ae (Ry hy h il ic j ae) (Og hy il ic h (j+1) hj)
theorem acE{y:Iv}(h:y.all=true){p N:Nat}(hN:1<=N):(xS y p N).all=true:=by
 have ht:(lk y p N).all=true:=by
  cases hc:(lk y p N).all
  .obtain ⟨d,rfl⟩:∃ d,N=1+d:=⟨N-1,ae⟩
   have:=W6 hc;rw[W7 h]at this;cases this
  .rfl
 unfold xS;rw[Gw p (.inr (by unfold qH;rw[ht];simpa using ht))];rfl
theorem acF{y:Iv}{r:Rat}(hy:y.ib)(h:y.jX r)(hr:jc r*2<=1){p:Nat}(il:8<=p)(ic:p<=512){N:Nat}(hN:1<=N)(rV:N<=1000)(M:Nat)(hM:N<=M):(xS y p N).jX (EQ r M):=by
 obtain⟨d,rfl⟩:∃ d,M=N+d:=⟨M-N,ae⟩
 have e1:EQ r (N+d)=EQ r N+iL (fun i=>eQ r (N+1+i)) d:=by
  unfold EQ;rw[show N+d+1=N+1+d by omega,DE]
 have hz:=(mL r).1;have t:=OD hz (J:=1) (by exact hr) (show 1<=N+1 by omega) d;have p0:=uJ hz (N+1+d);have b1:jc (iL (fun i=>eQ r (N+1+i)) d)<=iL (fun i=>eQ (jc r) (N+1+i)) d:=by
  have:=B8 (fun i=>eQ r (N+1+i)) d;rwa[qd d fun i _=>D7 r (N+1+i)]at this
 have e3:eQ (jc r) (N+1)*2<=eQ (jc r) N:=OC hz (J:=1) (by exact hr) (show 1<=N by omega);rw[e1];refine xH (Cq hy il ic N) (Cc (vt hy il ic N)) ae ae (Ry hy h il ic N ae) (Pt (vt hy il ic N) (Og hy il ic h N ae) ?_);rw[D7];grind
theorem acG{y:Iv}{r:Rat}(hy:y.ib)(h:y.jX r)(hb:y.all=true\/Sub y (pj (-1))){p:Nat}(il:8<=p)(ic:p<=512){N:Nat}(hN:1<=N)(rV:N<=1000):pf (EQ r) (xS y p N):=by
 rcases hb with hb|hb
 .exact pf.all (acE hb hN)
 .refine pf.Nl (k:=N) fun M hM=>acF hy h ?_ il ic hN rV M hM
  obtain⟨b1,b2⟩:=Ce.1 (hb.jX h);have e:P2 (-1)=1/2:= ar ;rw[e]at b1 b2;have:=xF (x:=r) (b:=1/2) aq aq 
  grind
def om(x:Iv)(p:Nat):Iv:=if(iW x).all then ie else kE (jh (kI (iW x).lo (iW x).lo) p false) (jz (kI (iW x).lo (iW x).lo) p false) (jh (kI (iW x).hi (iW x).hi) p true) (jz (kI (iW x).hi (iW x).hi) p true)
theorem O9{x:Iv}(xa:x.all=false):0<=(iW x).lo.q:=by
 unfold iW;rw[xa];show 0<=(ni x).q;unfold ni;split
 .rw [qY];exact b9
 .obtain ⟨_,_,m⟩:=BL (kY x.lo) (kY x.hi)
  rcases m with m|m<;>rw[m]
  .exact (yM x.lo).1
  .exact (yM x.hi).1
theorem zg(x:Iv):(iW x).all=x.all:=by unfold iW;cases h:x.all<;>simp[h,ie]
theorem Oq{x:Iv}(hx:x.ib){p:Nat}(hp:1<=p)(ic:p<=4096){r:Rat}(h:x.jX r):(om x p).jX (r*r):=by
 unfold om;rw[zg];cases xa:x.all
 .simp only[bq,a6]
  obtain⟨s,hs,h0,e⟩:∃ s,(iW x).jX s/\0<=s/\r*r=s*s:=by
   by_cases hr:0<=r
   .exact ⟨r,Gu hx h (.inl ⟨rfl,hr⟩),hr,rfl⟩
   .exact ⟨-r,Gu hx h (.inr ⟨rfl,aq⟩),aq,aq⟩
  have hl:=O9 xa;have ya:(iW x).all=false:=by rw[zg];exact xa
  obtain⟨s1,s2⟩:=hs.jZ ya;rw[e];unfold kE;split
  .exact .inl rfl
  .rename_i he
   have A:=wq (zp (iW x).lo (iW x).lo) hp ic;have B:=wu (zp (iW x).hi (iW x).hi) hp ic;rw[Di]at A B;have a1:=(A.1 ae).2;have b1:=(B.1 ae).2;refine .inr ⟨?_,?_⟩
   .have m1:=b8 s1 hl
    have m2:=cB s1 h0;show _<=s*s;exact bH a1 (bH m1 (by rw[fo s];rw[fo (iW x).lo.q s];exact m2))
   .have m1:=b8 s2 h0
    have m2:=cB s2 (bH h0 s2);exact bH (bH m1 m2) b1
 .exact .inl rfl
theorem JE{x:Iv}(hx:x.ib){p:Nat}(hp:1<=p)(ic:p<=4096):(om x p).ib:=by
 cases xa:x.all
 .have h1:=Oq hx hp ic hx.wV
  unfold om at h1 ⊢;rw[zg,xa]at h1 ⊢;simp only[bq,a6]at h1 ⊢;unfold kE at h1 ⊢;split
  .exact mh
  .rename_i he
   rw[aQ he]at h1;obtain⟨h2,h3⟩:=h1.jZ rfl;refine .inr ⟨rfl,wA _ hp ic _,wA _ hp ic _,?_⟩;rw[o0];exact bH h2 h3
 .unfold om
  rw[zg,xa];exact mh
theorem pf.sqr{f:Nat->Rat}{X:Iv}(hx:X.ib)(h:pf f X){p:Nat}(hp:1<=p)(ic:p<=4096):pf (fun N=>f N*f N) (om X p):=by
 cases xa:X.all
 .intro ε hε
  obtain⟨B,hB⟩:∃ B,B=jc X.lo.q+jc X.hi.q+1:=⟨_,rfl⟩
  have a0:=mL X.lo.q;have b0:=mL X.hi.q;have hB1:1<=B:= aq ;have Ls:0<2*B:= aq ;obtain⟨δ,hδ⟩:∃ δ,δ=min 1 (ε/(2*B)):=⟨_,rfl⟩
  have hεB:0<ε/(2*B):=by rw[cA];exact dJ hε (fp.2 Ls)
  have TF:0<δ:=by rw[hδ];grind
  have hδ1:δ<=1:=by rw[hδ];grind
  have hδ2:δ*(2*B)<=ε:=by
   have h1:δ<=ε/(2*B):=by rw[hδ];grind
   have h2:=b8 h1 (bA Ls);rwa[dm aq]at h2
  obtain⟨N0,h0⟩:=h δ TF;refine⟨N0,fun N hN=>?_⟩;obtain⟨r,hr,hd⟩:=h0 N hN;refine⟨r*r,Oq hx hp ic hr,?_⟩;obtain⟨r1,r2⟩:=hr.jZ xa;rw[show f N*f N-r*r=(f N-r)*(f N+r)by grind,xG];have hs:jc (f N+r)<=2*B:=by
   obtain⟨_,c2,c3,_⟩:=mL (f N-r);exact xF aq aq 
  have h3:=cB hs (mL (f N-r)).1;have h4:=b8 hd (bA Ls)
  grind
 .exact pf.all (by unfold om;rw[zg,xa];rfl)
theorem Yy(r:Rat):∀ ε,0<ε->∃ N0,∀ N,N0<=N->jc (EQ r N-EQ (r*P2 (-1)) N*EQ (r*P2 (-1)) N)<=ε:=by
 intro ε hε;have e:r*P2 (-1)+r*P2 (-1)=r:=by
  have:P2 (-1)=1/2:= ar ;rw[this];grind
 have:=J0 (r*P2 (-1)) (r*P2 (-1)) hε;rwa[e]at this
theorem af6{r:Rat}{X:Iv}(hx:X.ib)(h:pf (EQ (r*P2 (-1))) X){p:Nat}(hp:1<=p)(ic:p<=4096):pf (EQ r) (om X p):=(h.sqr hx hp ic).shift (Yy r)
theorem aj6{y:Iv}{n:Int}(h:Sub y (pj n)):(mK y (-1)).all=true\/Sub (mK y (-1)) (pj (n-1)):=by
 obtain⟨ya,k1,k2⟩:=h.wh rfl;replace k1:(iF (pN n)).q<=y.lo.q:=k1;replace k2:y.hi.q<=(pN n).q:=k2;rw[oE,qE]at k1;rw[qE]at k2;unfold mK kE;rw[ya];simp only[bq,a6];split
 .exact .inl rfl
 .rename_i he
  have e:P2 (n-1)=P2 n*P2 (-1):=by rw[<-qe];congr 1
  refine .inr (.inr ⟨rfl,?_,?_⟩)
  .show (iF (pN (n-1))).q<=(sK y.lo (-1)).q
   rw[oE,qE,AD ae,e,<-fO,u9];exact k1
  .show (sK y.hi (-1)).q<=(pN (n-1)).q
   rw[qE,AD ae,e,u9];exact k2
end Go.Proofs.YtdgnpeddgdclhaaGreatDoor
