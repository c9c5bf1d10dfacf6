/- Texts: Um Ul Ur Us Ua Ut Uv Kn Kq Te Tf Dg Tg Dh Ud Tk Uq Uw Ux Uy Uz Va Px Iz Mo Ma Mb Zb Ba Di Bb Dp Mw No Nn Mk Mc Qm Qt Yp Bo Md Mf Mg Mh Mi Mj Mr Za Zd. -/
import Derived.Test.YtdgnpeddgdclhaaGreatDoorM02
set_option linter.unusedSimpArgs false
set_option linter.unusedVariables false
set_option linter.defProp false
set_option maxHeartbeats 4000000
namespace Go.Proofs.YtdgnpeddgdclhaaGreatDoor
open Go.RowKit Fp Pu
def OT(a b:List Nat)(x:Nat):PS:=⟨67,false,[(20,.e (iP x)),(19,.e (iP a.length)),(18,.e (dO a)),(5,.own 17),(1,.e (dO b))],[(17,.row false 79 (a.length+b.length) 1 (gF (gH a b x)))]⟩
def OU(a b:List Nat)(x:Nat)(k:Nat):PS:=⟨67,false,[(27,.e (iP k)),(26,.e (iP b.length)),(25,.e (dO b)),(8,.e (.v (.int .u64 (((iZ (a.getD x 0) x b (gH a b x) k).2:Nat):Int)))),(7,.e (.v (.int .u32 (a.getD x 0:Int)))),(6,.e (iP x)),(20,.e (iP x)),(19,.e (iP a.length)),(18,.e (dO a)),(5,.own 17),(1,.e (dO b))],[(17,.row false 79 (a.length+b.length) 1 (gF ((iZ (a.getD x 0) x b (gH a b x) k).1)))]⟩
theorem aa9(a b:List Nat)(ha:ej a)(hb:ej b)(h1:a.length<=3000)(h2:b.length<=3000):dM 221 [dO a,dO b] (dO (gH a b a.length)):=by
 exact tr false Tryz.call221 Tryz.func221 (chain [eh ((a.length:Int)+(b.length:Int)) ae,.a ( ae :0<=(((a.length:Int)+(b.length:Int)):Int)/\(((a.length:Int)+(b.length:Int)):Int)<=(((a.length:Int)+(b.length:Int)):Int)),.a ( ae :((4:Nat):Int)*((a.length:Int)+(b.length:Int))<=281474976710656/\(((a.length:Int)+(b.length:Int)):Int)<=9223372036854775807),.s (Sp.upto (OT a b) 0 a.length ae (fun x hx ic=>by
    have f1:=ha.getD x;have so:=Be ha hb x ae;have g1:=so.len;have g2:=(Bd f1 hb so.ok (i:=x) ae b.length ae).len;have g3:=(Bd f1 hb so.ok (i:=x) ae b.length ae).lt;exact eu (chain [tT 21 ((x:Int)<(a.length:Int)) ae,iX ((x:Int)) (a.length) ae,.s (Sp.upto (OU a b x) 0 b.length ae (fun k hk YY=>by
    have f2:=hb.getD k;have q:=Bd f1 hb so.ok (i:=x) ae k ae;have f3:=q.ok.getD (x+k);have f4:=q.lt;have f5:=q.len;have f6:=OX f1 f2;exact eu (chain [tT 28 ((k:Int)<(b.length:Int)) ae,iX ((k:Int)) (b.length) ae,.o 33 (.int (lY _ ae):PV.le (.e (.v (.int .u64 (IntKind.u64.wrap (a.getD x 0:Int))))) (.e (.v (.int .u64 (a.getD x 0:Int))))),.o 35 (.int (lY _ ae):PV.le (.e (.v (.int .u64 (IntKind.u64.wrap (b.getD k 0:Int))))) (.e (.v (.int .u64 (b.getD k 0:Int))))),
     nJ ((a.getD x 0:Int)*(b.getD k 0:Int)) ae,eh ((x:Int)+(k:Int)) ae,iX ((((x+k):Nat):Int)) ((a.length+b.length)) ae,.a ( ae :(x+k)<(a.length+b.length)),.o 43 (.int (lY _ ae):PV.le (.e (.v (.int .u64 (IntKind.u64.wrap (((((iZ (a.getD x 0) x b (gH a b x) k).1).getD (x+k) 0):Nat):Int))))) (.e (.v (.int .u64 (((((iZ (a.getD x 0) x b (gH a b x) k).1).getD (x+k) 0):Nat):Int))))),
     nJ (((((a.getD x 0)*(b.getD k 0)):Nat):Int)+(((((iZ (a.getD x 0) x b (gH a b x) k).1).getD (x+k) 0):Nat):Int)) ae,
     nJ ((((((a.getD x 0)*(b.getD k 0))+(((iZ (a.getD x 0) x b (gH a b x) k).1).getD (x+k) 0)):Nat):Int)+(((iZ (a.getD x 0) x b (gH a b x) k).2:Nat):Int)) ae,
     eh ((x:Int)+(k:Int)) ae,.o 52 (.int (qL _):PV.le (.e (.v (.int .u32 (IntKind.u32.wrap ((((((a.getD x 0)*(b.getD k 0))+(((iZ (a.getD x 0) x b (gH a b x) k).1).getD (x+k) 0))+(iZ (a.getD x 0) x b (gH a b x) k).2):Nat):Int))))) (.e (.v (.int .u32 (((((((a.getD x 0)*(b.getD k 0))+(((iZ (a.getD x 0) x b (gH a b x) k).1).getD (x+k) 0))+(iZ (a.getD x 0) x b (gH a b x) k).2)%4294967296):Nat):Int))))),.a ( ae :0<=(32:Int)/\(32:Int)<=((64:Nat):Int)),.o 54 (.int (y6 _):PV.le (.e (.v (.int .u64 (((((((a.getD x 0)*(b.getD k 0))+(((iZ (a.getD x 0) x b (gH a b x) k).1).getD (x+k) 0))+(iZ (a.getD x 0) x b (gH a b x) k).2):Nat):Int)/2^32)))) (.e (.v (.int .u64 (((((((a.getD x 0)*(b.getD k 0))+(((iZ (a.getD x 0) x b (gH a b x) k).1).getD (x+k) 0))+(iZ (a.getD x 0) x b (gH a b x) k).2)/4294967296):Nat):Int))))),
     iX ((((x+k):Nat):Int)) ((a.length+b.length)) ae,.a ( ae :(x+k)<(a.length+b.length)),eh ((k:Int)+1) ae]<|.e (chain [.o 8 (.int (by first|rfl|omega|(simp only[aO,aK];omega)):PV.le (.e (.v (.int .u64 (((((((a.getD x 0)*(b.getD k 0))+(((iZ (a.getD x 0) x b (gH a b x) k).1).getD (x+k) 0))+(iZ (a.getD x 0) x b (gH a b x) k).2)/4294967296):Nat):Int)))) (.e (.v (.int .u64 (((iZ (a.getD x 0) x b (gH a b x) (k+1)).2:Nat):Int))))),.b 17 (Jc rfl ae :Bx.le (.row false 79 (a.length+b.length) 1 (fun i' j'=>if i'=(x+k)/\0<=j'/\j'<0+1 then[(.v (.int .u32 (((((((a.getD x 0)*(b.getD k 0))+(((iZ (a.getD x 0) x b (gH a b x) k).1).getD (x+k) 0))+(iZ (a.getD x 0) x b (gH a b x) k).2)%4294967296):Nat):Int)))].getD (j'-0) .any else(gF ((iZ (a.getD x 0) x b (gH a b x) k).1)) i' j')) (.row false 79 (a.length+b.length) 1 (gF ((iZ (a.getD x 0) x b (gH a b x) (k+1)).1))))]<|.nil)) ah)
  (fun hk=>by
    exact eu (chain [tF 28 ((b.length:Int)<(b.length:Int)) ae]<|.nil) ah) ak :fP 7 Tryz.f221 (OU a b x 0) (.exit 2) ⟨67,false,[(8,.e (.v (.int .u64 (((iZ (a.getD x 0) x b (gH a b x) b.length).2:Nat):Int)))),(6,.e (iP x)),(20,.e (iP x)),(19,.e (iP a.length)),(18,.e (dO a)),(5,.own 17),(1,.e (dO b))],[(17,.row false 79 (a.length+b.length) 1 (gF ((iZ (a.getD x 0) x b (gH a b x) b.length).1)))]⟩) (chain [.o 8 (.int (by first|rfl|omega|(simp only[aO,aK];omega)):PV.le (.e (.v (.int .u64 0))) (.e (.v (.int .u64 (((iZ (a.getD x 0) x b (gH a b x) 0).2:Nat):Int))))),.b 17 (.of_eq rfl:Bx.le (.row false 79 (a.length+b.length) 1 (gF (gH a b x))) (.row false 79 (a.length+b.length) 1 (gF ((iZ (a.getD x 0) x b (gH a b x) 0).1))))]<|.nil),
     eh ((x:Int)+(b.length:Int)) ae,.o 63 (.int (qL _):PV.le (.e (.v (.int .u32 (IntKind.u32.wrap (((iZ (a.getD x 0) x b (gH a b x) b.length).2:Nat):Int))))) (.e (.v (.int .u32 ((((iZ (a.getD x 0) x b (gH a b x) b.length).2%4294967296):Nat):Int))))),
     iX ((((x+b.length):Nat):Int)) ((a.length+b.length)) ae,.a ( ae :(x+b.length)<(a.length+b.length)),eh ((x:Int)+1) ae]<|.e (chain [.b 17 (Jc rfl ae :Bx.le (.row false 79 (a.length+b.length) 1 (fun i' j'=>if i'=(x+b.length)/\0<=j'/\j'<0+1 then[(.v (.int .u32 ((((iZ (a.getD x 0) x b (gH a b x) b.length).2%4294967296):Nat):Int)))].getD (j'-0) .any else(gF ((iZ (a.getD x 0) x b (gH a b x) b.length).1)) i' j')) (.row false 79 (a.length+b.length) 1 (gF (gH a b (x+1)))))]<|.nil)) ah)
  (fun hx=>by
    exact eu (chain [tF 21 ((a.length:Int)<(a.length:Int)) ae]<|.nil) ah) ak :fP 3 Tryz.f221 (OT a b 0) (.exit 0) ⟨67,false,[(5,.own 17)],[(17,.row false 79 (a.length+b.length) 1 (gF (gH a b a.length)))]⟩) (chain [.b 17 (Jd rfl (fun i=>by simp[gH,aF,ag6];split<;>rfl):Bx.le (.row false 79 (a.length+b.length) 1 (fun _ j_=>[(.v (.int .u32 0))].getD j_ .any)) (.row false 79 (a.length+b.length) 1 (gF (gH a b 0))))]<|.nil)]<|rR (dO (gH a b a.length)) (wV (by rw[(Be ha hb a.length ae).len]):E.le (.sl false (a.length+b.length) 1 (gF (gH a b a.length))) (dO (gH a b a.length)))) ah 
open Go.RowKit Fp Pu
theorem Il(L:List Nat)(h:L.length<=256):dM 203 [dO L] (bP false):=by
 exact tr true Tryz.call203 Tryz.func203 (chain [tF 5 (256<(L.length:Int)) ae]<|.nil) ah 
theorem aa8(L:List Nat)(h1:L.length<=256):dM 164 [(.sl true 1 1 fun i_ j_=>[(dO L)].getD (i_*1+j_) (.v (.bool false)))] (bP false):=by
 exact tr true Tryz.call164 Tryz.func164 (chain [.c (Ol true 1 _ 203 [] (fun _=>false) (fun i hi=>(match i,hi with|0,_=>Il _ h1|n+1,hi=>absurd hi ae)) ae (fun _ _=>rfl):dM 202 [(.sl true 1 1 fun i_ j_=>[(dO L)].getD (i_*1+j_) (.v (.bool false))),(.fn 203 [])] _)]<|.nil) ah 
theorem O7(L:List Nat)(M:List Nat)(h1:L.length<=256)(h2:M.length<=256):dM 164 [(.sl true 2 1 fun i_ j_=>[(dO L),(dO M)].getD (i_*1+j_) (.v (.bool false)))] (bP false):=by
 exact tr true Tryz.call164 Tryz.func164 (chain [.c (Ol true 2 _ 203 [] (fun _=>false) (fun i hi=>(match i,hi with|0,_=>Il _ h1|1,_=>Il _ h2|n+2,hi=>absurd hi ae)) ae (fun _ _=>rfl):dM 202 [(.sl true 2 1 fun i_ j_=>[(dO L),(dO M)].getD (i_*1+j_) (.v (.bool false))),(.fn 203 [])] _)]<|.nil) ah 
theorem aba(L M:List Nat)(hL:ej L)(hM:ej M)(h1:L.length<=256)(h2:M.length<=256)(hf:(dN (val L*val M)).length<=256):dM 181 [dO L,dO M] (.ef [dO (dN (val L*val M)),iP 0]):=by
 have ka:=hL.dZ;have kb:=hM.dZ;have ta:=ky L;have tb:=ky M;unfold ig at ta tb;have km:=(Be ka kb _ (aG _)).ok;have he:dZ (gH (dZ L) (dZ M) (dZ L).length)=dN (val L*val M):=by rw[mu km,afH ka kb,kS,kS]
 have hd:(dZ (gH (dZ L) (dZ M) (dZ L).length)).length<=256:=by rw[he];exact hf
 exact tr true Tryz.call181 Tryz.func181 (chain [.c (O7 _ _ af af :dM 164 [(.sl true 2 1 fun i_ j_=>[(dO L),(dO M)].getD (i_*1+j_) (.v (.bool false)))] _),.c (pj _ hL:dM 167 [(dO L)] _),.c (pj _ hM:dM 167 [(dO M)] _),.c (aa9 _ _ ka kb ae ae :dM 221 [(dO (dZ L)),(dO (dZ M))] _),.c (O5 _ km hd:dM 165 [(dO (gH (dZ L) (dZ M) (dZ L).length))] _)]<|rQ (.ef [(dO (dZ (gH (dZ L) (dZ M) (dZ L).length))),(iP 0)]) (.ef [dO (dN (val L*val M)),iP 0]) (by rw[he])) ah 
theorem tz(m n:Nat)(h1:(dN m).length<=256)(h2:(dN n).length<=256)(hf:(dN (m*n)).length<=256):dM 181 [dO (dN m),dO (dN n)] (.ef [dO (dN (m*n)),iP 0]):=by
 have:=aba (dN m) (dN n) (gr m) (gr n) h1 h2 (by rw[eV,eV];exact hf);rwa[eV,eV]at this
open Go.RowKit Fp Pu
theorem qH(m n:Nat)(h1:(dN m).length<=256)(h2:n<=65536)(h3:(dN (m*2^n)).length<=256):dM 216 [(dO (dN m)),(iP n)] (dO (dN (m*2^n))):=by
 exact tr true Tryz.call216 Tryz.func216 (chain [.c (O9 _ _ ae ae ae :dM 168 [(dO (dN m)),(iP n)] _)]<|.nil) ah 
theorem I0(m n:Nat)(h1:(dN m).length<=256)(h2:n<=65536):dM 217 [(dO (dN m)),(iP n)] (.ef [(dO (dN (m/2^n))),(bP (decide (m%2^n≠0)))]):=by
 have hb:=qR h1;have hq:(dN (m/2^n)).length<=256:=jF (by have:=qd (bj m (2^n));omega);have qt:(dN (m/2^n*2^n)).length<=256:=jF (by have:=qd (ch m (2^n));omega);have hr:(dN (m/2^dU m)).length<=256:=jF (by have:=qd (bj m (2^dU m));omega);have jO:(dN (m/2^dU m*2^dU m)).length<=256:=jF (by have:=qd (ch m (2^dU m));omega);by_cases hn:dU m<n
 .have q1:=Lt (cJ hn)
  have q2:=Lt (aG (dU m));exact tr true Tryz.call217 Tryz.func217 (chain [.c (nZ _ ae :dM 194 [(dO (dN m))] _),tT 11 ((dU m:Int)<(n:Int)) ae,.c (nZ _ ae :dM 194 [(dO (dN m))] _),.c (Io _ _ ae ae :dM 127 [(dO (dN m)),(iP (dU m:Int))] _),.c (qH _ _ ae ae ae :dM 216 [(dO (dN (m/2^(dU m)))),(iP (dU m:Int))] _),.c (tv _ _ ae ae :dM 131 [(dO (dN ((m/2^(dU m))*2^(dU m)))),(dO (dN m))] _)]<|rQ (.ef [(dO (dN (m/2^(dU m)))),(bP ((fN ((m/2^(dU m))*2^(dU m)) m) != 0))]) (.ef [(dO (dN (m/2^n))),(bP (decide (m%2^n≠0)))]) (by rw[Ox,q1.1,q1.2,q2.1,q2.2])) ah 
 .exact tr true Tryz.call217 Tryz.func217 (chain [.c (nZ _ ae :dM 194 [(dO (dN m))] _),tF 11 ((dU m:Int)<(n:Int)) ae,.c (Io _ _ ae ae :dM 127 [(dO (dN m)),(iP n)] _),.c (qH _ _ ae ae ae :dM 216 [(dO (dN (m/2^n))),(iP n)] _),.c (tv _ _ ae ae :dM 131 [(dO (dN ((m/2^n)*2^n))),(dO (dN m))] _)]<|rQ (.ef [(dO (dN (m/2^n))),(bP ((fN ((m/2^n)*2^n) m) != 0))]) (.ef [(dO (dN (m/2^n))),(bP (decide (m%2^n≠0)))]) (by rw[Ox])) ah 
open Go.RowKit Fp Pu
abbrev JE:E:=.sl false 1 1 fun i_ j_=>[(.v (.int .u32 1))].getD (i_*1+j_) (.v (.bool false))
abbrev Ey(p):=dO (dN (0*2^((0-(eE 0 0 p)).toNat)))
def jM(m:Nat)(e:Int)(p:Nat):Nat:=if eE m e p<=e then m*2^(e-eE m e p).toNat else m/2^(eE m e p-e).toNat
def nn(m:Nat)(e:Int)(more:Bool)(p:Nat):Bool:=if eE m e p<=e then more else(more||decide (m%2^(eE m e p-e).toNat≠0))
theorem Vk(m:Nat)(e:Int)(more:Bool)(p:Nat):jv m e more p false=jM m e p:=by unfold jv jM;simp
theorem Fx{m:Nat}{e:Int}{more:Bool}{p:Nat}(hm:more=true->p<dU m):jv m e more p true=jM m e p+if nn m e more p=true then 1 else 0:=by
 unfold jv jM nn;by_cases hU:eE m e p<=e
 .have Y1:more=false:=by
   cases GP:more with
   | false=>rfl
   | true=>have:=hm GP;unfold eE at hU;omega
  simp[hU,Y1]
 .simp [hU]
theorem acP(m:Nat)(e:Int)(more up:Bool)(p:Nat)(h1:(dN m).length<=256)(h0:m≠0)(dW:8<=p)(dR:p<=512)(gq:-45000<=e)(fV:e<=45000)(hm:more=true->p<dU m):dM 220 [(.agg [(dO (dN m)),(iP e),(bP more)]),iP (p:Int),bP up] (.ef [dP (fi false m e more p up),iP (eU false m e more p up)]):=by
 have Np:=Lb (e:=e) true h0 hm (show 1<=p by omega);have qu:=Lb (e:=e) false h0 hm (show 1<=p by omega);have hb:=qR h1;have C4:=jK h0;have hqb:=La (e:=e) (more:=more) (p:=p) (up:=true) h0;have Zf:=La (e:=e) (more:=more) (p:=p) (up:=false) h0;rw[Vk]at qu Zf;have hu1:-16384<=(eE m e p):=by unfold eE;omega
 have hu2:(eE m e p)<=60000:=by unfold eE;omega
 have hu3:(eE m e p)<=max (e+8192) (-16384):=by unfold eE;omega
 have fa:(dN (jM m e p)).length<=256:=jF ae;have fb:(dN (jv m e more p true)).length<=256:=jF ae;have f1:(dN 1).length<=256:=jF ag;cases up with
 | true=>
  exact tr true Tryz.call220 Tryz.func220 (chain [.c (nZ _ ae :dM 194 [(dO (dN m))] _),eh (e+(dU m:Int)) ae,eh ((e+(dU m:Int))-(p:Int)) ae,.o 21 (.int (by unfold eE;split<;>omega):PV.le (.e (iP (if(-16384)>((e+(dU m:Int))-(p:Int))then(-16384)else((e+(dU m:Int))-(p:Int))))) (.e (iP (eE m e p)))),.j 58 ⟨84,true,[(9,.e (dO (dN (jM m e p)))),(10,.e (bP (nn m e more p))),(8,.e (iP (eE m e p))),(6,.box 6 0),(1,.e (iP p)),(2,.e (bP true))],[(6,.cells 31 [(bP false),(.v (.slice none 0 0)),(iP 0)])]⟩
   (.w ((eE m e p)<=e)
    (fun m1=>by
     have fx:(dN (m*2^(e-(eE m e p)).toNat)).length<=256:=by have:=fa;rwa[show jM m e p=_ from aC m1]at this
     exact chain [.v 29 (.bool (aE m1)),eh (e-(eE m e p)) ae,.o 35 (.int ae :PV.le (.e (iP (e-(eE m e p)))) (.e (iP ((e-(eE m e p)).toNat:Int)))),.c (qH m ((e-(eE m e p)).toNat:Nat) ae ae ae)]<|.e (chain [.o 9 (.e (.of_eq (by rw[show jM m e p=_ from aC m1])):PV.le (.e (dO (dN (m*2^((e-(eE m e p)).toNat))))) (.e (dO (dN (jM m e p))))),tB 10 (by simp[nn,m1]:more=(nn m e more p))]<|.nil))
    (fun m1=>chain [.v 29 (.bool (aD m1)),eh ((eE m e p)-e) ae,.o 43 (.int ae :PV.le (.e (iP ((eE m e p)-e))) (.e (iP (((eE m e p)-e).toNat:Int)))),.c (I0 m (((eE m e p)-e).toNat:Nat) ae ae)]<|.w (more=true)
     (fun m2=>chain [tB 48 (m2)]<|.e (chain [.o 9 (.e (.of_eq (by rw[show jM m e p=_ from aB m1])):PV.le (.e (dO (dN (m/2^(((eE m e p)-e).toNat))))) (.e (dO (dN (jM m e p))))),tB 10 (by simp[nn,m1,m2]:true=(nn m e more p))]<|.nil))
     (fun m2=>chain [tB 48 (ay m2)]<|.e (chain [.o 9 (.e (.of_eq (by rw[show jM m e p=_ from aB m1])):PV.le (.e (dO (dN (m/2^(((eE m e p)-e).toNat))))) (.e (dO (dN (jM m e p))))),tB 10 (by simp[nn,m1,m2]:(decide (m%2^(((eE m e p)-e).toNat)≠0))=(nn m e more p))]<|.nil)))),.j 110 ⟨84,true,[(9,.e (dO (dN (jv m e more p true)))),(8,.e (iP (eE m e p))),(6,.box 6 0),(1,.e (iP p)),(2,.e (bP true))],[(6,.cells 31 [(bP false),(.v (.slice none 0 0)),(iP 0)])]⟩
   (.w (nn m e more p=true)
    (fun m1=>by
     have fx:(dN (jM m e p+1)).length<=256:=by have:=fb;rwa[Fx hm,aC m1]at this
     exact chain [.v 55 (.bool (m1)),.o 58 (.e one_le:PV.le (.e JE) (.e (dO (dN 1)))),.c (DN _ _ ae ae ae :dM 218 [(dO (dN (jM m e p))),(dO (dN 1))] _)]<|.e (chain [.o 9 (.e (.of_eq (by rw[Fx hm,aC m1])):PV.le (.e (dO (dN ((jM m e p)+1)))) (.e (dO (dN (jv m e more p true)))))]<|.nil))
    (fun m1=>chain [.v 55 (.bool (ay m1))]<|.e (chain [.o 9 (.e (.of_eq (by rw[Fx hm,aB m1,bd])):PV.le (.e (dO (dN (jM m e p)))) (.e (dO (dN (jv m e more p true)))))]<|.nil))),.c (nZ _ ae :dM 194 [(dO (dN (jv m e more p true)))] _),eh ((dU (jv m e more p true):Int)+(eE m e p)) ae]<|.w (16384<((dU (jv m e more p true):Int)+(eE m e p)))
   (fun k1=>by
    have w1:=(Np.resolve_left (fun h=>absurd k1 ae)).2.resolve_right (fun h=>absurd h.1 ag);exact chain [tB 66 (aE k1),.o 68 (.e rG:PV.le (.e (.agg [(bP false),(.v (.slice none 0 0)),(iP 0)])) (.e (dP eW)))]<|rQ (.ef [(dP eW),(iP 9)]) (.ef [dP (fi false m e more p true),iP (eU false m e more p true)]) (by rw[w1.2.1,w1.2.2]))
   (fun k1=>by
    have w1:=Np.resolve_right (fun h=>k1 h.1);have hd:iM (canon false (jv m e more p true) (eE m e p)):=by rw[<-w1.2.1];exact(nQ false m e more p true ae ae).range
    exact chain [tB 66 (aD k1),.c (vz _ _ _ ae ae ae af :dM 262 [(bP false),(dO (dN (jv m e more p true))),(iP (eE m e p))] _)]<|rQ (.ef [(dP (canon false (jv m e more p true) (eE m e p))),(iP 0)]) (.ef [dP (fi false m e more p true),iP (eU false m e more p true)]) (by rw[w1.2.1,w1.2.2]))) ah 
 | false=>
  exact tr true Tryz.call220 Tryz.func220 (chain [.c (nZ _ ae :dM 194 [(dO (dN m))] _),eh (e+(dU m:Int)) ae,eh ((e+(dU m:Int))-(p:Int)) ae,.o 21 (.int (by unfold eE;split<;>omega):PV.le (.e (iP (if(-16384)>((e+(dU m:Int))-(p:Int))then(-16384)else((e+(dU m:Int))-(p:Int))))) (.e (iP (eE m e p)))),.j 58 ⟨84,true,[(9,.e (dO (dN (jM m e p)))),(10,.e (bP (nn m e more p))),(8,.e (iP (eE m e p))),(6,.box 6 0),(1,.e (iP p)),(2,.e (bP false))],[(6,.cells 31 [(bP false),(.v (.slice none 0 0)),(iP 0)])]⟩
   (.w ((eE m e p)<=e)
    (fun m1=>by
     have fx:(dN (m*2^(e-(eE m e p)).toNat)).length<=256:=by have:=fa;rwa[show jM m e p=_ from aC m1]at this
     exact chain [.v 29 (.bool (aE m1)),eh (e-(eE m e p)) ae,.o 35 (.int ae :PV.le (.e (iP (e-(eE m e p)))) (.e (iP ((e-(eE m e p)).toNat:Int)))),.c (qH m ((e-(eE m e p)).toNat:Nat) ae ae ae)]<|.e (chain [.o 9 (.e (.of_eq (by rw[show jM m e p=_ from aC m1])):PV.le (.e (dO (dN (m*2^((e-(eE m e p)).toNat))))) (.e (dO (dN (jM m e p))))),tB 10 (by simp[nn,m1]:more=(nn m e more p))]<|.nil))
    (fun m1=>chain [.v 29 (.bool (aD m1)),eh ((eE m e p)-e) ae,.o 43 (.int ae :PV.le (.e (iP ((eE m e p)-e))) (.e (iP (((eE m e p)-e).toNat:Int)))),.c (I0 m (((eE m e p)-e).toNat:Nat) ae ae)]<|.w (more=true)
     (fun m2=>chain [tB 48 (m2)]<|.e (chain [.o 9 (.e (.of_eq (by rw[show jM m e p=_ from aB m1])):PV.le (.e (dO (dN (m/2^(((eE m e p)-e).toNat))))) (.e (dO (dN (jM m e p))))),tB 10 (by simp[nn,m1,m2]:true=(nn m e more p))]<|.nil))
     (fun m2=>chain [tB 48 (ay m2)]<|.e (chain [.o 9 (.e (.of_eq (by rw[show jM m e p=_ from aB m1])):PV.le (.e (dO (dN (m/2^(((eE m e p)-e).toNat))))) (.e (dO (dN (jM m e p))))),tB 10 (by simp[nn,m1,m2]:(decide (m%2^(((eE m e p)-e).toNat)≠0))=(nn m e more p))]<|.nil)))),.c (nZ _ ae :dM 194 [(dO (dN (jM m e p)))] _),eh ((dU (jM m e p):Int)+(eE m e p)) ae]<|.w (16384<((dU (jM m e p):Int)+(eE m e p)))
   (fun k1=>by
    have w1:=(qu.resolve_left (fun h=>absurd k1 ae)).2.resolve_left (fun h=>absurd h.1 ag);have hd:iM (canon false ((1*2^p)-1) (16384-(p:Int))):=by rw[aK,<-w1.2.1];exact(nQ false m e more p false ae ae).range
    have g0:dU (1*2^p)=p+1:=by rw[aK];exact qQ (aG _) (ag8 ag ae)
    have g1:(dN 1).length<=256:=jF ag;have g2:(dN (1*2^p)).length<=256:=jF ae;have g4:1<=1*2^p:=by rw[aK];exact aJ ag 
    have g3:(dN ((1*2^p)-1)).length<=256:=jF (by have:=qd (cI (1*2^p) 1);omega);exact chain [tB 66 (aE k1),.o 70 (.e one_le:PV.le (.e JE) (.e (dO (dN 1)))),.c (qH 1 p ae ae ae),.o 73 (.e one_le:PV.le (.e JE) (.e (dO (dN 1)))),.c (Bj _ _ ae ae ae :dM 219 [(dO (dN (1*2^p))),(dO (dN 1))] _),eh (16384-(p:Int)) ae,.c (vz _ _ _ ae ae ae af :dM 262 [(bP false),(dO (dN ((1*2^p)-1))),(iP (16384-(p:Int)))] _)]<|rQ (.ef [(dP (canon false ((1*2^p)-1) (16384-(p:Int)))),(iP 0)]) (.ef [dP (fi false m e more p false),iP (eU false m e more p false)]) (by rw[w1.2.1,w1.2.2,aK]))
   (fun k1=>by
    have w1:=qu.resolve_right (fun h=>k1 h.1);have hd:iM (canon false (jM m e p) (eE m e p)):=by rw[<-w1.2.1];exact(nQ false m e more p false ae ae).range
    exact chain [tB 66 (aD k1),.c (vz _ _ _ ae ae ae af :dM 262 [(bP false),(dO (dN (jM m e p))),(iP (eE m e p))] _)]<|rQ (.ef [(dP (canon false (jM m e p) (eE m e p))),(iP 0)]) (.ef [dP (fi false m e more p false),iP (eU false m e more p false)]) (by rw[w1.2.1,w1.2.2]))) ah 
theorem acQ(up:Bool)(p:Nat)(dW:8<=p)(dR:p<=512):dM 220 [(.agg [(dO (dN 0)),(iP 0),(bP false)]),iP (p:Int),bP up] (.ef [dP (fi false 0 0 false p up),iP (eU false 0 0 false p up)]):=by
 have hU:eE 0 0 p = -(p:Int):=by unfold eE;rw[nP];omega
 have hK:ey 0 0 p=0:=by unfold ey;rw[nP];omega
 have hQ:fT 0 0 false p up=0:=by unfold fT;rw[hK];simp
 have hO:gX 0 0 false p up=false:=by unfold gX;rw[hQ];simp
 have mn:(false != up)=up:=by cases up<;>rfl
 have k2:fi false 0 0 false p up=eW:=by unfold fi;rw[mn,hO,aB ag,hQ];rfl
 have k3:eU false 0 0 false p up=0:=by unfold eU;rw[mn,hO];rfl
 have lz:dU 0=0:=rfl;have l0:(dN 0).length<=256:=by rw[j8];decide
 have l1:(dN (0*2^(0-eE 0 0 p).toNat)).length<=256:=by rw[bS];exact l0
 have lb:dU (0*2^(0-eE 0 0 p).toNat)=0:=by rw[bS];rfl
 have hd:iM (canon false (0*2^(0-eE 0 0 p).toNat) (eE 0 0 p)):=by rw[bS];exact .inl rfl
 by_cases wb:up=true
 .exact tr true Tryz.call220 Tryz.func220 (chain [.c (nZ _ ae :dM 194 [(dO (dN 0))] _),eh (0+(dU 0:Int)) ae,eh ((0+(dU 0:Int))-(p:Int)) ae,.o 21 (.int (by unfold eE;rw[nP];split<;>omega):PV.le (.e (iP (if(-16384)>((0+(dU 0:Int))-(p:Int))then(-16384)else((0+(dU 0:Int))-(p:Int))))) (.e (iP (eE 0 0 p)))),tT 29 ((eE 0 0 p)<=0) ae,eh (0-(eE 0 0 p)) ae,.o 35 (.int ae :PV.le (.e (iP (0-(eE 0 0 p)))) (.e (iP ((0-(eE 0 0 p)).toNat:Int)))),.c (qH 0 ((0-(eE 0 0 p)).toNat:Nat) ae ae ae),tB 52 (wb:up=true),.c (nZ _ ae :dM 194 [(Ey p)] _),
   eh ((dU (0*2^((0-(eE 0 0 p)).toNat)):Int)+(eE 0 0 p)) ae,tF 66 (16384<((dU (0*2^((0-(eE 0 0 p)).toNat)):Int)+(eE 0 0 p))) ae,.c (vz _ _ _ ae ae ae af :dM 262 [(bP false),(Ey p),(iP (eE 0 0 p))] _)]<|rQ (.ef [(dP (canon false (0*2^((0-(eE 0 0 p)).toNat)) (eE 0 0 p))),(iP 0)]) (.ef [dP (fi false 0 0 false p up),iP (eU false 0 0 false p up)]) (by rw[k2,k3,bS];rfl)) ah 
 .exact tr true Tryz.call220 Tryz.func220 (chain [.c (nZ _ ae :dM 194 [(dO (dN 0))] _),eh (0+(dU 0:Int)) ae,eh ((0+(dU 0:Int))-(p:Int)) ae,.o 21 (.int (by unfold eE;rw[nP];split<;>omega):PV.le (.e (iP (if(-16384)>((0+(dU 0:Int))-(p:Int))then(-16384)else((0+(dU 0:Int))-(p:Int))))) (.e (iP (eE 0 0 p)))),tT 29 ((eE 0 0 p)<=0) ae,eh (0-(eE 0 0 p)) ae,.o 35 (.int ae :PV.le (.e (iP (0-(eE 0 0 p)))) (.e (iP ((0-(eE 0 0 p)).toNat:Int)))),.c (qH 0 ((0-(eE 0 0 p)).toNat:Nat) ae ae ae),tB 52 (by simpa using wb:up=false),.c (nZ _ ae :dM 194 [(Ey p)] _),
   eh ((dU (0*2^((0-(eE 0 0 p)).toNat)):Int)+(eE 0 0 p)) ae,tF 66 (16384<((dU (0*2^((0-(eE 0 0 p)).toNat)):Int)+(eE 0 0 p))) ae,.c (vz _ _ _ ae ae ae af :dM 262 [(bP false),(Ey p),(iP (eE 0 0 p))] _)]<|rQ (.ef [(dP (canon false (0*2^((0-(eE 0 0 p)).toNat)) (eE 0 0 p))),(iP 0)]) (.ef [dP (fi false 0 0 false p up),iP (eU false 0 0 false p up)]) (by rw[k2,k3,bS];rfl)) ah 
theorem yU(m:Nat)(e:Int)(more up:Bool)(p:Nat)(h1:(dN m).length<=256)(h0:m≠0\/m=0/\e=0/\more=false)(dW:8<=p)(dR:p<=512)(gq:-45000<=e)(fV:e<=45000)(hm:more=true->p<dU m):dM 220 [(.agg [(dO (dN m)),(iP e),(bP more)]),iP (p:Int),bP up] (.ef [dP (fi false m e more p up),iP (eU false m e more p up)]):=by
 rcases h0 with h0|⟨rfl,rfl,rfl⟩
 .exact acP m e more up p h1 h0 dW dR gq fV hm
 .exact acQ up p dW dR
open Go.RowKit Fp Pu
def im(p:Int):Bool:=decide (8<=p)&&decide (p<=512)
theorem nf{p:Int}:im p=true↔8<=p/\p<=512:=by simp[im]
theorem qy(p:Int):dM 87 [iP p] (bP (im p)):=by
 by_cases h:8<=p
 .exact tr true Tryz.call87 Tryz.func87 (chain [tB 4 (aE h)]<|rQ (bP (decide (p<=512))) (bP (im p)) (by simp[im,h])) ah 
 .exact tr true Tryz.call87 Tryz.func87 (chain [tB 4 (aD h)]<|rQ (bP false) (bP (im p)) (by simp[im,h])) ah 
theorem adh(p:Int):dM 48 [iP p] (bP (im p)):=by
 by_cases h:8<=p
 .exact tr true Tryz.call48 Tryz.func48 (chain [tB 4 (aE h)]<|rQ (bP (decide (p<=512))) (bP (im p)) (by simp[im,h])) ah 
 .exact tr true Tryz.call48 Tryz.func48 (chain [tB 4 (aD h)]<|rQ (bP false) (bP (im p)) (by simp[im,h])) ah 
theorem acS(p:Int):dM 214 [iP p] (bP (im p)):=by
 by_cases h:8<=p
 .exact tr true Tryz.call214 Tryz.func214 (chain [tB 4 (aE h)]<|rQ (bP (decide (p<=512))) (bP (im p)) (by simp[im,h])) ah 
 .exact tr true Tryz.call214 Tryz.func214 (chain [tB 4 (aD h)]<|rQ (bP false) (bP (im p)) (by simp[im,h])) ah 
open Go.RowKit Fp Pu
def Ql(l:List Dy)(p:Nat)(i:Nat):PS:=⟨20,true,[(9,.e (iP i)),(8,.e (iP l.length)),(7,.e (jl l)),(0,.e (iP p))],[]⟩
theorem BA(neg:Bool)(m:Nat)(e:Int)(more up:Bool)(p:Nat)(h1:(dN m).length<=256)(h0:m≠0\/m=0/\e=0/\more=false)(dW:8<=p)(dR:p<=512)(gq:-45000<=e)(fV:e<=45000)(hm:more=true->p<dU m):dM 180 [(bP neg),(.agg [(dO (dN m)),(iP e),(bP more)]),(iP p),(bP up)] (.ef [dP (fi neg m e more p up),iP (eU neg m e more p up)]):=by
 cases neg with
 | true=>
  have hs:=Lh true m e more p up;change _/\(eU false m e more p (!(up==true))=0->_->eD (fi false m e more p (!(up==true)))=_)/\((eU false m e more p (!(up==true))≠0\/_)->fi false m e more p (!(up==true))=_)at hs;have hE:eU true m e more p up=eU false m e more p (!(up==true)):=hs.1;have hv:=nQ false m e more p (!(up==true)) (show 1<=p by omega) ae;by_cases hz:eU false m e more p (!(up==true))=0
  .exact tr true Tryz.call180 Tryz.func180 (chain [.c (yU _ _ _ _ _ ae af ae ae ae ae af :dM 220 [(.agg [(dO (dN m)),(iP e),(bP more)]),(iP p),(bP (!(up==true)))] _),tB 22 (by rw[hz];rfl:((eU false m e more p (!(up==true)))==0)=true),.c (sO _ af :dM 191 [(dP (fi false m e more p (!(up==true))))] _)]<|rQ (.ef [(dP (eD (fi false m e more p (!(up==true))))),(iP (eU false m e more p (!(up==true))))]) (.ef [dP (fi true m e more p up),iP (eU true m e more p up)]) (by rw[hs.2.1 hz rfl,hE])) ah 
  .exact tr true Tryz.call180 Tryz.func180 (chain [.c (yU _ _ _ _ _ ae af ae ae ae ae af :dM 220 [(.agg [(dO (dN m)),(iP e),(bP more)]),(iP p),(bP (!(up==true)))] _),tB 22 (by simpa using hz:((eU false m e more p (!(up==true)))==0)=false)]<|rQ (.ef [(dP (fi false m e more p (!(up==true)))),(iP (eU false m e more p (!(up==true))))]) (.ef [dP (fi true m e more p up),iP (eU true m e more p up)]) (by rw[hs.2.2 (.inl hz),hE])) ah 
 | false=>
  have hs:=Lh false m e more p up;change _/\(eU false m e more p (!(up==false))=0->_->eD (fi false m e more p (!(up==false)))=_)/\((eU false m e more p (!(up==false))≠0\/_)->fi false m e more p (!(up==false))=_)at hs;have hE:eU false m e more p up=eU false m e more p (!(up==false)):=hs.1;have hv:=nQ false m e more p (!(up==false)) (show 1<=p by omega) ae;by_cases hz:eU false m e more p (!(up==false))=0
  .exact tr true Tryz.call180 Tryz.func180 (chain [.c (yU _ _ _ _ _ ae af ae ae ae ae af :dM 220 [(.agg [(dO (dN m)),(iP e),(bP more)]),(iP p),(bP (!(up==false)))] _),tB 22 (by rw[hz];rfl:((eU false m e more p (!(up==false)))==0)=true)]<|rQ (.ef [(dP (fi false m e more p (!(up==false)))),(iP (eU false m e more p (!(up==false))))]) (.ef [dP (fi false m e more p up),iP (eU false m e more p up)]) (by rw[hs.2.2 (.inr rfl),hE])) ah 
  .exact tr true Tryz.call180 Tryz.func180 (chain [.c (yU _ _ _ _ _ ae af ae ae ae ae af :dM 220 [(.agg [(dO (dN m)),(iP e),(bP more)]),(iP p),(bP (!(up==false)))] _),tB 22 (by simpa using hz:((eU false m e more p (!(up==false)))==0)=false)]<|rQ (.ef [(dP (fi false m e more p (!(up==false)))),(iP (eU false m e more p (!(up==false))))]) (.ef [dP (fi false m e more p up),iP (eU false m e more p up)]) (by rw[hs.2.2 (.inl hz),hE])) ah 
theorem acR(d:Dy):dM 215 [(dP d)] (.agg [(dO (dN d.m)),(iP d.e),(bP false)]):=by
 exact tr true Tryz.call215 Tryz.func215 (.nil) ah 
theorem Qm(p:Nat)(l:List Dy)(hl:l.length<=1000)(hv:∀ i,i<l.length->(l.getD i eW).Valid)(dW:8<=p)(dR:p<=512):dM 177 [(iP p),(jl l)] (iP 0):=by
 exact tr true Tryz.call177 Tryz.func177 (chain [.s (Sp.upto (Ql l p) 0 l.length ae (fun i hi mN=>by
    have Nx:=hv i mN;exact eu (chain [tT 10 ((i:Int)<(l.length:Int)) ae,iX ((i:Int)) (l.length) ae,.c (lK _ af :dM 68 [(dP (l.getD i eW))] _),eh ((i:Int)+1) ae]<|.nil) ah)
  (fun hi=>by
    exact eu (chain [tF 10 ((l.length:Int)<(l.length:Int)) ae]<|.nil) ah) ak :fP 2 Tryz.f177 (Ql l p 0) (.exit 0) ⟨20,true,[(0,.e (iP p))],[]⟩) .nil,.c (acS _:dM 214 [(iP p)] _),tB 18 (nf.2 ⟨ ae, ae⟩:(im (p:Int))=true)]<|.nil) ah 
theorem IY(p:Nat)(a:Dy)(ha:a.Valid)(dW:8<=p)(dR:p<=512):dM 177 [iP (p:Int),jl [a]] (iP 0):=
 Qm p [a] aj (fun i hi=>(match i,hi with
  | 0,_=>ha
  | n+1,hi=>absurd hi aj)) dW dR
theorem ru(p:Nat)(a b:Dy)(ha:a.Valid)(hb:b.Valid)(dW:8<=p)(dR:p<=512):dM 177 [iP (p:Int),jl [a,b]] (iP 0):=
 Qm p [a,b] aj (fun i hi=>(match i,hi with
  | 0,_=>ha
  | 1,_=>hb
  | n+2,hi=>absurd hi aj)) dW dR
theorem D2(d:Dy)(p:Nat)(up:Bool)(hd:d.Valid)(dW:8<=p)(dR:p<=512):dM 178 [(dP d),(iP p),(bP up)] (.ef [dP (ff d p up),iP (fg d p up)]):=by
 have hl:=hd.dN;have hz:d.m≠0\/d.m=0/\d.e=0/\false=false:=by
  by_cases h:d.m=0
  .rcases hd.canon with q|q
   .exact .inr ⟨h,q.2.2,rfl⟩
   .omega
  .exact .inl h
 have th:-45000<=d.e:=by have:=hd.exp;omega
 have nD:d.e<=45000:=by have:=hd.exp;omega
 have hm:false=true->p<dU d.m:=fun h=>by cases h
 exact tr true Tryz.call178 Tryz.func178 (chain [.o 11 (.e (FF _):PV.le (.e (.sl true 1 3 fun i_ j_=>(fD d).getD (i_*3+j_) (.v (.bool false)))) (.e (jl [d]))),.c (IY _ _ af ae ae :dM 177 [(iP p),(jl [d])] _),tB 14 ( ag :((0:Int) != 0)=false),.c (acR _:dM 215 [(dP d)] _),.c (BA _ _ _ _ _ _ ae af ae ae ae ae af :dM 180 [(bP d.neg),(.agg [(dO (dN d.m)),(iP d.e),(bP false)]),(iP p),(bP up)] _)]<|.nil) ah 
theorem xw{a b:Nat}:fN a b<0↔a<b:=by
 unfold fN;split
 .simp_all
 .split<;>simp_all
theorem D3(a b:Dy)(p:Nat)(ha:a.Valid)(hb:b.Valid)(a0:a.m≠0)(b0:b.m≠0)(ht:b.dX<=a.dX)(dW:8<=p)(dR:p<=512):dM 179 [(dP a),(dP b),(iP p)] (.ef [(.agg [(dO (dN (gY a b p))),(iP (eF a b p)),(bP (jg a b p))]),bP (kG a b p)]):=by
 have sz:=Ep ha hb a0 b0 ht dR;have sp:=Jv ha hb a0 b0 ht dR;obtain⟨l1,l2,l3,l4,l5,l6,l7,l8,l9⟩:=sz;obtain⟨l10,l11,l12⟩:=sp;obtain⟨r1,r2,r3⟩:=I9 a b p;have va:=ha.dN;have vb:=hb.dN;have xa:=ha.exp;have xb:=hb.exp;have ta:=BS a0;have tb:=BS b0;have ba:=qR va;have bb:=qR vb;have z1:(dN (a.m*2^((a.e-(eF a b p)).toNat))).length<=256:=jF (show dU (jy a b p)<=_ by omega);have zy:(dN (iH b (eF a b p))).length<=256:=jF ae;have z3:(dN (iF a b p)).length<=256:=jF ae;have zm:(dN (gY a b p)).length<=256:=jF ae;have z5:(dN 1).length<=256:=jF ag;exact tr true Tryz.call179 Tryz.func179 (chain [.c (gh _ af :dM 130 [(dP a)] _),eh ((Dy.dX a)-(p:Int)) ae,eh (((Dy.dX a)-(p:Int))-8) ae,.c (gh _ af :dM 130 [(dP a)] _),.c (gh _ af :dM 130 [(dP b)] _),eh ((Dy.dX a)-(Dy.dX b)) ae,.j 62 ⟨109,true,[(8,.e (iP (eF a b p))),(6,.box 6 0),(4,.box 4 0),(3,.box 3 0)],[(6,.cells 148 [(.v (.slice none 0 0)),(iP 0),(bP false)]),(4,.cells 31 (fD b)),(3,.cells 31 (fD a))]⟩
   (.w (((Dy.dX a)-(Dy.dX b))<=2)
    (fun m1=>chain [.v 31 (.bool (aE m1))]<|.e (chain [.o 8 (.int (by unfold eF;rw[aC m1];split<;>split<;>omega):PV.le (.e (iP (if b.e<(if(((Dy.dX a)-(p:Int))-8)<a.e then(((Dy.dX a)-(p:Int))-8)else a.e)then b.e else(if(((Dy.dX a)-(p:Int))-8)<a.e then(((Dy.dX a)-(p:Int))-8)else a.e)))) (.e (iP (eF a b p))))]<|.nil))
    (fun m1=>chain [.v 31 (.bool (aD m1))]<|.e (chain [.o 8 (.int (by unfold eF;rw[aB m1];split<;>omega):PV.le (.e (iP (if(((Dy.dX a)-(p:Int))-8)<a.e then(((Dy.dX a)-(p:Int))-8)else a.e))) (.e (iP (eF a b p))))]<|.nil))),
  eh (a.e-(eF a b p)) ae,.o 41 (.int ae :PV.le (.e (iP (a.e-(eF a b p)))) (.e (iP ((a.e-(eF a b p)).toNat:Int)))),.c (qH a.m ((a.e-(eF a b p)).toNat) ae ae ae),.j 92 ⟨109,true,[(10,.e (dO (dN (iH b (eF a b p))))),(11,.e (bP (jo b (eF a b p)))),(9,.e (dO (dN (a.m*2^((a.e-(eF a b p)).toNat))))),(8,.e (iP (eF a b p))),(6,.box 6 0),(4,.box 4 0),(3,.box 3 0)],[(6,.cells 148 [(.v (.slice none 0 0)),(iP 0),(bP false)]),(4,.cells 31 (fD b)),(3,.cells 31 (fD a))]⟩
   (.w ((eF a b p)<=b.e)
    (fun m1=>by
     have z2:(dN (b.m*2^((b.e-(eF a b p)).toNat))).length<=256:=by have:=zy;rwa[show iH b (eF a b p)=_ from aC m1]at this
     exact chain [.v 46 (.bool (aE m1)),eh (b.e-(eF a b p)) ae,.o 52 (.int ae :PV.le (.e (iP (b.e-(eF a b p)))) (.e (iP ((b.e-(eF a b p)).toNat:Int)))),.c (qH b.m ((b.e-(eF a b p)).toNat) ae ae ae)]<|.e (chain [.o 10 (.e (.of_eq (by rw[show iH b (eF a b p)=_ from aC m1])):PV.le (.e (dO (dN (b.m*2^((b.e-(eF a b p)).toNat))))) (.e (dO (dN (iH b (eF a b p)))))),tB 11 (by simp[jo,m1]:false=(jo b (eF a b p)))]<|.nil))
    (fun m1=>chain [.v 46 (.bool (aD m1)),eh ((eF a b p)-b.e) ae,.o 60 (.int ae :PV.le (.e (iP ((eF a b p)-b.e))) (.e (iP (((eF a b p)-b.e).toNat:Int)))),.c (I0 b.m (((eF a b p)-b.e).toNat) ae ae)]<|.e (chain [.o 10 (.e (.of_eq (by rw[show iH b (eF a b p)=_ from aB m1])):PV.le (.e (dO (dN (b.m/2^(((eF a b p)-b.e).toNat))))) (.e (dO (dN (iH b (eF a b p)))))),tB 11 (by simp[jo,m1]:(decide (b.m%2^(((eF a b p)-b.e).toNat)≠0))=(jo b (eF a b p)))]<|.nil)))]<|.w (a.neg=b.neg)
  (fun k1=>by
   have eT:kG a b p=false:=by unfold kG;simp[k1]
   have eY:iF a b p=iH b (eF a b p):=by unfold iF;simp[k1]
   have eM:gY a b p=jy a b p+iH b (eF a b p):=by unfold gY;rw[aC k1,eY]
   have eS:jg a b p=jo b (eF a b p):=by unfold jg;rw[eT];simp
   have z4:(dN ((a.m*2^((a.e-(eF a b p)).toNat))+iH b (eF a b p))).length<=256:=by have:=zm;rwa[eM]at this
   exact chain [tB 68 (ax k1),.c (DN _ _ ae ae ae :dM 218 [(dO (dN (a.m*2^((a.e-(eF a b p)).toNat)))),(dO (dN (iH b (eF a b p))))] _)]<|rQ (.ef [(.agg [(dO (dN ((a.m*2^((a.e-(eF a b p)).toNat))+(iH b (eF a b p))))),(iP (eF a b p)),(bP (jo b (eF a b p)))]),(bP false)]) (.ef [(.agg [(dO (dN (gY a b p))),(iP (eF a b p)),(bP (jg a b p))]),bP (kG a b p)]) (by rw[eM,eS,eT];rfl))
  (fun k1=>chain [tB 68 (aw k1),.j 158 ⟨109,true,[(10,.e (dO (dN (iF a b p)))),(11,.e (bP (jo b (eF a b p)))),(9,.e (dO (dN (a.m*2^((a.e-(eF a b p)).toNat))))),(8,.e (iP (eF a b p))),(6,.box 6 0)],[(6,.cells 148 [(.v (.slice none 0 0)),(iP 0),(bP false)])]⟩
   (.w (jo b (eF a b p)=true)
    (fun m1=>by
     have z6:(dN ((iH b (eF a b p))+1)).length<=256:=jF (by rw[show(iH b (eF a b p))+1=iF a b p by(unfold iF;simp[k1,m1])];omega);exact chain [.v 79 (.bool (m1)),.o 82 (.e one_le:PV.le (.e (.sl false 1 1 fun i_ j_=>[(.v (.int .u32 1))].getD (i_*1+j_) (.v (.bool false)))) (.e (dO (dN 1)))),.c (DN _ _ ae ae ae :dM 218 [(dO (dN (iH b (eF a b p)))),(dO (dN 1))] _)]<|.e (chain [.o 10 (.e (.of_eq (by unfold iF;simp[k1,m1])):PV.le (.e (dO (dN ((iH b (eF a b p))+1)))) (.e (dO (dN (iF a b p)))))]<|.nil))
    (fun m1=>chain [.v 79 (.bool (ay m1))]<|.e (chain [.o 10 (.e (.of_eq (by unfold iF;simp[k1,m1])):PV.le (.e (dO (dN (iH b (eF a b p))))) (.e (dO (dN (iF a b p)))))]<|.nil))),.c (tv _ _ ae ae :dM 131 [(dO (dN (a.m*2^((a.e-(eF a b p)).toNat)))),(dO (dN (iF a b p)))] _)]<|.w ((fN (a.m*2^((a.e-(eF a b p)).toNat)) (iF a b p))<0)
   (fun k2=>by
    have hc:jy a b p<iF a b p:=xw.1 k2;have eT:kG a b p=true:=by unfold kG;simp[k1,hc]
    have eM:gY a b p=iF a b p-jy a b p:=by unfold gY;rw[aB k1,aC hc]
    have eS:jg a b p=false:=by unfold jg;rw[eT];simp
    have z4:(dN (iF a b p-(a.m*2^((a.e-(eF a b p)).toNat)))).length<=256:=by have:=zm;rwa[eM]at this
    have z7:(a.m*2^((a.e-(eF a b p)).toNat))<=iF a b p:=cJ hc;exact chain [tB 89 (aE k2),.c (Bj _ _ ae ae ae :dM 219 [(dO (dN (iF a b p))),(dO (dN (a.m*2^((a.e-(eF a b p)).toNat))))] _)]<|rQ (.ef [(.agg [(dO (dN ((iF a b p)-(a.m*2^((a.e-(eF a b p)).toNat))))),(iP (eF a b p)),(bP false)]),(bP true)]) (.ef [(.agg [(dO (dN (gY a b p))),(iP (eF a b p)),(bP (jg a b p))]),bP (kG a b p)]) (by rw[eM,eS,eT];rfl))
   (fun k2=>by
    have hc:¬jy a b p<iF a b p:=fun h=>k2 (xw.2 h)
    have eT:kG a b p=false:=by unfold kG;simp[hc]
    have eM:gY a b p=jy a b p-iF a b p:=by unfold gY;rw[aB k1,aB hc]
    have eS:jg a b p=jo b (eF a b p):=by unfold jg;rw[eT];simp
    have z4:(dN ((a.m*2^((a.e-(eF a b p)).toNat))-iF a b p)).length<=256:=by have:=zm;rwa[eM]at this
    have z7:iF a b p<=(a.m*2^((a.e-(eF a b p)).toNat)):=Nat.le_of_not_lt hc;exact chain [tB 89 (aD k2),.c (Bj _ _ ae ae ae :dM 219 [(dO (dN (a.m*2^((a.e-(eF a b p)).toNat)))),(dO (dN (iF a b p)))] _)]<|rQ (.ef [(.agg [(dO (dN ((a.m*2^((a.e-(eF a b p)).toNat))-(iF a b p)))),(iP (eF a b p)),(bP (jo b (eF a b p)))]),(bP false)]) (.ef [(.agg [(dO (dN (gY a b p))),(iP (eF a b p)),(bP (jg a b p))]),bP (kG a b p)]) (by rw[eM,eS,eT];rfl)))) ah 
open Go.RowKit Fp Pu
theorem uW(p:Nat)(up:Bool):ff eW p up=eW/\fg eW p up=0:=by
 have hK:ey 0 0 p=0:=by unfold ey;rw[nP];omega
 have hQ:∀ o,fT 0 0 false p o=0:=by intro o;unfold fT;rw[hK];simp
 have hO:∀ o,gX 0 0 false p o=false:=by intro o;unfold gX;rw[hQ];simp
 unfold ff fg fi eU;simp only[eW,hO,hQ];exact⟨rfl,rfl⟩
theorem Qh(a b:Dy)(p:Nat)(up:Bool)(ha:a.Valid)(hb:b.Valid)(dW:8<=p)(dR:p<=512):dM 144 [(dP a),(dP b),(iP p),(bP up)] (.ef [dP (ff (ep a b) p up),iP (fg (ep a b) p up)]):=by
 by_cases a0:a.m=0
 .have e1:ep a b=b:=by unfold ep;rw[aC a0]
  exact tr true Tryz.call144 Tryz.func144 (chain [.o 16 (.e (qW _ _):PV.le (.e (.sl true 2 3 fun i_ j_=>(fD a++fD b).getD (i_*3+j_) (.v (.bool false)))) (.e (jl [a,b]))),.c (ru _ _ _ af af ae ae :dM 177 [(iP p),(jl [a,b])] _),tB 19 ( ag :((0:Int) != 0)=false),tB 26 (pk (oM.2 a0):(((dN a.m).length:Int)==0)=true),.c (D2 b p up af ae ae)]<|rQ (.ef [(dP (ff b p up)),(iP (fg b p up))]) (.ef [dP (ff (ep a b) p up),iP (fg (ep a b) p up)]) (by rw[e1])) ah 
 .by_cases b0:b.m=0
  .have e1:ep a b=a:=by unfold ep;rw[aB a0,aC b0]
   exact tr true Tryz.call144 Tryz.func144 (chain [.o 16 (.e (qW _ _):PV.le (.e (.sl true 2 3 fun i_ j_=>(fD a++fD b).getD (i_*3+j_) (.v (.bool false)))) (.e (jl [a,b]))),.c (ru _ _ _ af af ae ae :dM 177 [(iP p),(jl [a,b])] _),tB 19 ( ag :((0:Int) != 0)=false),tB 26 (ko (mo a0):(((dN a.m).length:Int)==0)=false),tB 37 (pk (oM.2 b0):(((dN b.m).length:Int)==0)=true),.c (D2 a p up af ae ae)]<|rQ (.ef [(dP (ff a p up)),(iP (fg a p up))]) (.ef [dP (ff (ep a b) p up),iP (fg (ep a b) p up)]) (by rw[e1])) ah 
  .by_cases ht:a.dX<b.dX
   .have nW:a.dX<=b.dX:= ae 
    have law:=Rk (p:=p) hb ha b0 a0 up;have siz:=Ep hb ha b0 a0 nW dR;have prt:=Jv hb ha b0 a0 nW dR;obtain⟨l1,l2,_,_,_,_,_,_,_⟩:=siz;have z1:(dN (gY b a p)).length<=256:=jF ae;have nV:=prt.2.2;have y1:-45000<=eF b a p:= ae ;have y2:eF b a p<=45000:= ae ;by_cases hz:gY b a p=0
    .by_cases hl:jg b a p=true
     .have h0:gY b a p≠0:=by intro q;have:=nV hl;rw[q,nP]at this;omega
      exact absurd hz h0
     .replace hz:gY b a p=0/\jg b a p=false:=⟨hz,by simpa using hl⟩
      have tf:ep a b=eW:=by rw[Ju a0 b0];exact law.1 hz
      exact tr true Tryz.call144 Tryz.func144 (chain [.o 16 (.e (qW _ _):PV.le (.e (.sl true 2 3 fun i_ j_=>(fD a++fD b).getD (i_*3+j_) (.v (.bool false)))) (.e (jl [a,b]))),.c (ru _ _ _ af af ae ae :dM 177 [(iP p),(jl [a,b])] _),tB 19 ( ag :((0:Int) != 0)=false),tB 26 (ko (mo a0):(((dN a.m).length:Int)==0)=false),tB 37 (ko (mo b0):(((dN b.m).length:Int)==0)=false),.c (gh _ af :dM 130 [(dP a)] _),.c (gh _ af :dM 130 [(dP b)] _),tB 48 (aE ht),.c (D3 b a p af af af af af ae ae),tB 61 (pk (oM.2 hz.1):(((dN (gY b a p)).length:Int)==0)=true),tB 64 (hz.2:(jg b a p)=false),.o 67 (.e rG:PV.le (.e (.agg [(bP false),(.v (.slice none 0 0)),(iP 0)])) (.e (dP eW)))]<|rQ (.ef [(dP eW),(iP 0)]) (.ef [dP (ff (ep a b) p up),iP (fg (ep a b) p up)]) (by rw[tf,(uW p up).1,(uW p up).2])) ah 
    .have h0:gY b a p≠0\/gY b a p=0/\eF b a p=0/\jg b a p=false:=.inl hz
     obtain⟨q1,q2⟩:=law.2 (fun q=>hz q.1);rw[<-Ju a0 b0]at q1 q2;exact tr true Tryz.call144 Tryz.func144 (chain [.o 16 (.e (qW _ _):PV.le (.e (.sl true 2 3 fun i_ j_=>(fD a++fD b).getD (i_*3+j_) (.v (.bool false)))) (.e (jl [a,b]))),.c (ru _ _ _ af af ae ae :dM 177 [(iP p),(jl [a,b])] _),tB 19 ( ag :((0:Int) != 0)=false),tB 26 (ko (mo a0):(((dN a.m).length:Int)==0)=false),tB 37 (ko (mo b0):(((dN b.m).length:Int)==0)=false),.c (gh _ af :dM 130 [(dP a)] _),.c (gh _ af :dM 130 [(dP b)] _),tB 48 (aE ht),.c (D3 b a p af af af af af ae ae),tB 61 (ko (mo hz):(((dN (gY b a p)).length:Int)==0)=false),.c (BA (! (b.neg==(kG b a p))) (gY b a p) (eF b a p) (jg b a p) up p ae af ae ae ae ae af)]<|rQ (.ef [(dP (fi (!(b.neg==(kG b a p))) (gY b a p) (eF b a p) (jg b a p) p up)),(iP (eU (!(b.neg==(kG b a p))) (gY b a p) (eF b a p) (jg b a p) p up))]) (.ef [dP (ff (ep a b) p up),iP (fg (ep a b) p up)]) (by rw[<-q1,<-q2];rfl)) ah 
   .have nW:b.dX<=a.dX:= ae 
    have law:=Rk (p:=p) ha hb a0 b0 up;have siz:=Ep ha hb a0 b0 nW dR;have prt:=Jv ha hb a0 b0 nW dR;obtain⟨l1,l2,_,_,_,_,_,_,_⟩:=siz;have z1:(dN (gY a b p)).length<=256:=jF ae;have nV:=prt.2.2;have y1:-45000<=eF a b p:= ae ;have y2:eF a b p<=45000:= ae ;by_cases hz:gY a b p=0
    .by_cases hl:jg a b p=true
     .have h0:gY a b p≠0:=by intro q;have:=nV hl;rw[q,nP]at this;omega
      exact absurd hz h0
     .replace hz:gY a b p=0/\jg a b p=false:=⟨hz,by simpa using hl⟩
      have tf:ep a b=eW:=by exact law.1 hz
      exact tr true Tryz.call144 Tryz.func144 (chain [.o 16 (.e (qW _ _):PV.le (.e (.sl true 2 3 fun i_ j_=>(fD a++fD b).getD (i_*3+j_) (.v (.bool false)))) (.e (jl [a,b]))),.c (ru _ _ _ af af ae ae :dM 177 [(iP p),(jl [a,b])] _),tB 19 ( ag :((0:Int) != 0)=false),tB 26 (ko (mo a0):(((dN a.m).length:Int)==0)=false),tB 37 (ko (mo b0):(((dN b.m).length:Int)==0)=false),.c (gh _ af :dM 130 [(dP a)] _),.c (gh _ af :dM 130 [(dP b)] _),tB 48 (aD ht),.c (D3 a b p af af af af af ae ae),tB 61 (pk (oM.2 hz.1):(((dN (gY a b p)).length:Int)==0)=true),tB 64 (hz.2:(jg a b p)=false),.o 67 (.e rG:PV.le (.e (.agg [(bP false),(.v (.slice none 0 0)),(iP 0)])) (.e (dP eW)))]<|rQ (.ef [(dP eW),(iP 0)]) (.ef [dP (ff (ep a b) p up),iP (fg (ep a b) p up)]) (by rw[tf,(uW p up).1,(uW p up).2])) ah 
    .have h0:gY a b p≠0\/gY a b p=0/\eF a b p=0/\jg a b p=false:=.inl hz
     obtain⟨q1,q2⟩:=law.2 (fun q=>hz q.1);exact tr true Tryz.call144 Tryz.func144 (chain [.o 16 (.e (qW _ _):PV.le (.e (.sl true 2 3 fun i_ j_=>(fD a++fD b).getD (i_*3+j_) (.v (.bool false)))) (.e (jl [a,b]))),.c (ru _ _ _ af af ae ae :dM 177 [(iP p),(jl [a,b])] _),tB 19 ( ag :((0:Int) != 0)=false),tB 26 (ko (mo a0):(((dN a.m).length:Int)==0)=false),tB 37 (ko (mo b0):(((dN b.m).length:Int)==0)=false),.c (gh _ af :dM 130 [(dP a)] _),.c (gh _ af :dM 130 [(dP b)] _),tB 48 (aD ht),.c (D3 a b p af af af af af ae ae),tB 61 (ko (mo hz):(((dN (gY a b p)).length:Int)==0)=false),.c (BA (! (a.neg==(kG a b p))) (gY a b p) (eF a b p) (jg a b p) up p ae af ae ae ae ae af)]<|rQ (.ef [(dP (fi (!(a.neg==(kG a b p))) (gY a b p) (eF a b p) (jg a b p) p up)),(iP (eU (!(a.neg==(kG a b p))) (gY a b p) (eF a b p) (jg a b p) p up))]) (.ef [dP (ff (ep a b) p up),iP (fg (ep a b) p up)]) (by rw[<-q1,<-q2];rfl)) ah 
theorem Qn(a b:Dy)(p:Nat)(up:Bool)(ha:a.Valid)(hb:b.Valid)(dW:8<=p)(dR:p<=512):dM 145 [(dP a),(dP b),(iP p),(bP up)] (.ef [dP (ff (iE a b) p up),iP (fg (iE a b) p up)]):=by
 by_cases a0:a.m=0
 .have e1:iE a b=eW:=by unfold iE;rw[a0,bS];rfl
  exact tr true Tryz.call145 Tryz.func145 (chain [.o 16 (.e (qW _ _):PV.le (.e (.sl true 2 3 fun i_ j_=>(fD a++fD b).getD (i_*3+j_) (.v (.bool false)))) (.e (jl [a,b]))),.c (ru _ _ _ af af ae ae :dM 177 [(iP p),(jl [a,b])] _),tB 19 ( ag :((0:Int) != 0)=false),tB 25 (pk (oM.2 a0):(((dN a.m).length:Int)==0)=true),.o 32 (.e rG:PV.le (.e (.agg [(bP false),(.v (.slice none 0 0)),(iP 0)])) (.e (dP eW)))]<|rQ (.ef [(dP eW),(iP 0)]) (.ef [dP (ff (iE a b) p up),iP (fg (iE a b) p up)]) (by rw[e1,(uW p up).1,(uW p up).2])) ah 
 .by_cases b0:b.m=0
  .have e1:iE a b=eW:=by unfold iE;rw[b0,bQ];rfl
   exact tr true Tryz.call145 Tryz.func145 (chain [.o 16 (.e (qW _ _):PV.le (.e (.sl true 2 3 fun i_ j_=>(fD a++fD b).getD (i_*3+j_) (.v (.bool false)))) (.e (jl [a,b]))),.c (ru _ _ _ af af ae ae :dM 177 [(iP p),(jl [a,b])] _),tB 19 ( ag :((0:Int) != 0)=false),tB 25 (ko (mo a0):(((dN a.m).length:Int)==0)=false),tB 30 (pk (oM.2 b0):(((dN b.m).length:Int)==0)=true),.o 32 (.e rG:PV.le (.e (.agg [(bP false),(.v (.slice none 0 0)),(iP 0)])) (.e (dP eW)))]<|rQ (.ef [(dP eW),(iP 0)]) (.ef [dP (ff (iE a b) p up),iP (fg (iE a b) p up)]) (by rw[e1,(uW p up).1,(uW p up).2])) ah 
  .have va:=ha.dN
   have vb:=hb.dN;have xa:=ha.exp;have xb:=hb.exp;have ra:=ha.range.resolve_left a0;have rb:=hb.range.resolve_left b0;have bm:=TF a.m b.m;have z1:(dN (a.m*b.m)).length<=256:=jF ae;have m0:a.m*b.m≠0:=cN a0 b0;have h0:a.m*b.m≠0\/a.m*b.m=0/\a.e+b.e=0/\false=false:=.inl m0;have hm:false=true->p<dU (a.m*b.m):=fun h=>by cases h
   obtain⟨q1,q2⟩:=Qv (a.neg != b.neg) up (a.m*b.m) (a.e+b.e) p m0;change ff (iE a b) p up=_ at q1;change fg (iE a b) p up=_ at q2;exact tr true Tryz.call145 Tryz.func145 (chain [.o 16 (.e (qW _ _):PV.le (.e (.sl true 2 3 fun i_ j_=>(fD a++fD b).getD (i_*3+j_) (.v (.bool false)))) (.e (jl [a,b]))),.c (ru _ _ _ af af ae ae :dM 177 [(iP p),(jl [a,b])] _),tB 19 ( ag :((0:Int) != 0)=false),tB 25 (ko (mo a0):(((dN a.m).length:Int)==0)=false),tB 30 (ko (mo b0):(((dN b.m).length:Int)==0)=false),.c (tz _ _ ae ae ae :dM 181 [(dO (dN a.m)),(dO (dN b.m))] _),eh (a.e+b.e) ae,.c (BA (! (a.neg==b.neg)) (a.m*b.m) (a.e+b.e) false up p ae af ae ae ae ae af)]<|rQ (.ef [(dP (fi (!(a.neg==b.neg)) (a.m*b.m) (a.e+b.e) false p up)),(iP (eU (!(a.neg==b.neg)) (a.m*b.m) (a.e+b.e) false p up))]) (.ef [dP (ff (iE a b) p up),iP (fg (iE a b) p up)]) (by rw[q1,q2];rfl)) ah 
theorem acO(a b:Dy)(p:Nat)(ha:a.Valid)(hb:b.Valid)(dW:8<=p)(dR:p<=512):dM 88 [(dP a),(dP b),(iP p)] (.ef [dP (ff (ep a b) p false),iP (fg (ep a b) p false)]):=by
 exact tr true Tryz.call88 Tryz.func88 (chain [.c (Qh _ _ _ _ af af ae ae :dM 144 [(dP a),(dP b),(iP p),(bP false)] _)]<|.nil) ah 
theorem Qg(a b:Dy)(p:Nat)(ha:a.Valid)(hb:b.Valid)(dW:8<=p)(dR:p<=512):dM 89 [(dP a),(dP b),(iP p)] (.ef [dP (ff (ep a b) p true),iP (fg (ep a b) p true)]):=by
 exact tr true Tryz.call89 Tryz.func89 (chain [.c (Qh _ _ _ _ af af ae ae :dM 144 [(dP a),(dP b),(iP p),(bP true)] _)]<|.nil) ah 
theorem D0(a b:Dy)(p:Nat)(ha:a.Valid)(hb:b.Valid)(dW:8<=p)(dR:p<=512):dM 92 [(dP a),(dP b),(iP p)] (.ef [dP (ff (iE a b) p false),iP (fg (iE a b) p false)]):=by
 exact tr true Tryz.call92 Tryz.func92 (chain [.c (Qn _ _ _ _ af af ae ae :dM 145 [(dP a),(dP b),(iP p),(bP false)] _)]<|.nil) ah 
theorem D1(a b:Dy)(p:Nat)(ha:a.Valid)(hb:b.Valid)(dW:8<=p)(dR:p<=512):dM 93 [(dP a),(dP b),(iP p)] (.ef [dP (ff (iE a b) p true),iP (fg (iE a b) p true)]):=by
 exact tr true Tryz.call93 Tryz.func93 (chain [.c (Qn _ _ _ _ af af ae ae :dM 145 [(dP a),(dP b),(iP p),(bP true)] _)]<|.nil) ah 
end Go.Proofs.YtdgnpeddgdclhaaGreatDoor
namespace Go.Proofs.YtdgnpeddgdclhaaGreatDoor.Fp
theorem aap{U V P q:Nat}(hP:0<P)(hV:9223372036854775808<=V/P)(X9:U<4294967296*V)(h1:q<=4294967295)(h2:q<=U/P/(V/P))(h3:q=4294967295\/U/P/(V/P)<=q):
 U/V<=q/\q<=U/V+1:=by
 have Gk:0<V/P:= ae ;have qZ:0<V:=by
  apply bh;intro h;have:V=0:= ae ;rw[this,Nat.zero_div]at Gk;omega
 have hVm:=bM V P;have hVr:=aS V hP;have hUm:=bM U P;have hUr:=aS U hP;constructor
 .
  rcases h3 with h3|h3
  .have:U/V<4294967296:=by rw[bC qZ];exact X9
   omega
  .refine aI ?_ h3
   rw[ct Gk,ct hP,aP];have h4:V/P*P<=V:=ch V P;exact aI (bN _ h4) (ch U V)
 .
  have h4:q*(V/P)<=U/P:=(ct Gk).1 h2;have h5:q*V<=q*(V/P)*P+q*P:=by
   have:V<=V/P*P+P:=by rw[aQ];omega
   have:=bN q this;rw[aY,<-aP]at this;exact this
  have h6:q*(V/P)*P<=U:=aI (a6 P h4) (ch U P);have h7:(q+1)*P<=V/P*P:=a6 P ae;have h8:V/P*P<=V:=ch V P;have h9:q*V<U+V:=by
   rw[aO,aK]at h7;omega
  apply bh;intro h;have qY:(U/V+2)*V<=q*V:=a6 V ae;have rW:=bM U V;have h12:=aS U qZ;rw[aO,aQ (U/V)]at qY;omega
theorem Vo{x v w third q rest:Nat}(hx:q*v+rest=x)(hq:q<=4294967295)(hw:w<4294967296)(hv:0<v)
 (h:4294967296<=rest\/q*w<=rest*4294967296+third):q<=(x*4294967296+third)/(v*4294967296+w):=by
 rw[ct ae,aY,<-hx];have e:q*(v*4294967296)=q*v*4294967296:=by rw[aP]
 rw[e,aO];rcases h with h|h
 .have h1:q*w<=4294967295*4294967295:=cz hq ae 
  omega
 .omega
theorem Lm{x v w third q rest:Nat}(hx:q*v+rest=x)(hv:0<v)(h:rest*4294967296+third<q*w):
 (x*4294967296+third)/(v*4294967296+w)<=q-1/\0<q/\(q-1)*v+(rest+v)=x:=by
 have hq:0<q:=by
  apply bh;intro h';have:q=0:= ae ;subst this;rw[bS]at h;omega
 obtain⟨r,rfl⟩:∃ r,q=r+1:=⟨q-1, ae⟩
 refine⟨?_,hq,?_⟩
 .have e1:(r+1)*(v*4294967296+w)=(r+1)*v*4294967296+(r+1)*w:=by rw[aY,<-aP]
  have e2:((r+1)*v+rest)*4294967296=(r+1)*v*4294967296+rest*4294967296:=aO _ _ _;have:(x*4294967296+third)/(v*4294967296+w)<r+1:=by
   have hd:0<v*4294967296+w:= ae ;have e4:x*4294967296=(r+1)*v*4294967296+rest*4294967296:=hx▸e2;refine(bC hd).2 ?_;rw[e1,e4];clear e1 e2 e4 hd hx hq;generalize (r+1)*v=a at *
   generalize (r+1)*w=z at *
   exact Nat.add_lt_add_left h _|>fun h=>by rw[<-ck]at h;exact h
  omega
 .have e3:(r+1)*v=r*v+v:=Nat.succ_mul r v
  rw[dj];rw[e3]at hx;clear e3 h hq;generalize r*v=a at *
  omega
theorem Vq{x v w third:Nat}(hv:0<v)(ht:third<4294967296):(x*4294967296+third)/(v*4294967296+w)<=x/v:=by
 have h1:(x*4294967296+third)/(v*4294967296+w)<=(x*4294967296+third)/(v*4294967296):=ahm ae ae;refine aI h1 ?_;rw[aQ v,<-bY];have:(x*4294967296+third)/4294967296=x:= ae ;rw[this];exact aG _
structure rL(O0:List Nat)(j q:Nat)(V:List Nat)(k:Nat)(O:List Nat)(c b:Nat):Prop where
 len:O.length=O0.length
 ok:ej O
 vl:val O+q*(4294967296^j*val (V.take k))=val O0+4294967296^(j+k)*(c+b)
 same:∀ i,j+k<=i->O.getD i 0=O0.getD i 0
 KM:c<4294967296
 KC:b<=1
theorem rL.start{O0:List Nat}(h:ej O0)(j q:Nat)(V:List Nat):rL O0 j q V 0 O0 0 0:=
 ⟨rfl,h,by simp[val],fun _ _=>rfl, ag, ag⟩
theorem afc{q y c b u:Nat}(hq:q<=4294967295)(hy:y<4294967296)(hc:c<4294967296)(hb:b<=1)(hu:u<4294967296):
 q*y+c<18446744073709551616/\(q*y+c)/4294967296<4294967296 /\
 ((u+18446744073709551616-(q*y+c)%4294967296-b)%18446744073709551616)/9223372036854775808<=1 /\
 ((u+18446744073709551616-(q*y+c)%4294967296-b)%18446744073709551616)%4294967296+(q*y+c)%4294967296+b =
  u+4294967296*(((u+18446744073709551616-(q*y+c)%4294967296-b)%18446744073709551616)/9223372036854775808):=by
 have h1:q*y<=4294967295*4294967295:=cz hq ae;generalize q*y=z at *
 omega
theorem rL.step{O0 V O:List Nat}{j q k c b:Nat}(h:rL O0 j q V k O c b){u' b':Nat}(hk:k<V.length)(hj:j+V.length<O0.length)(hu:u'<4294967296)(hc:(q*V.getD k 0+c)/4294967296<4294967296)(hb:b'<=1)
 (hd:u'+(q*V.getD k 0+c)%4294967296+b=O.getD (j+k) 0+4294967296*b'):
 rL O0 j q V (k+1) (O.set (j+k) u') ((q*V.getD k 0+c)/4294967296) b':=by
 have lh:j+k<O.length:=by rw[h.len];omega
 refine⟨by rw[bZ];exact h.len,h.ok.set _ hu,?_,fun i hi=>?_,hc,hb⟩
 .have e:=cM (q*V.getD k 0+c) 4294967296
  have h1:=tV (x:=u') lh;have h2:=h.vl;have h3:u'+(q*V.getD k 0+c)+b=O.getD (j+k) 0+4294967296*((q*V.getD k 0+c)/4294967296+b'):= ae ;have h4:=congrArg (4294967296^(j+k) * ·) h3;simp only[aY]at h4;rw[pY,aY (4294967296^j),aY q,<-aP (4294967296^j),<-aH,show q*(4294967296^(j+k)*V.getD k 0)=4294967296^(j+k)*(q*V.getD k 0)from cC _ _ _,
   show j+(k+1)=j+k+1 from rfl,aN,aP,aY 4294967296,aY (4294967296^(j+k))]
  rw[aY]at h2;omega
 .rw [getD_set_ne ae];exact h.same i ae 
theorem rL.last{O0 V O:List Nat}{j q c b:Nat}(h:rL O0 j q V V.length O c b)(hj:j+V.length<O0.length){t:Nat}
 (ht:t=(O.getD (j+V.length) 0+18446744073709551616-c-b)%18446744073709551616):
 (O.set (j+V.length) (t%4294967296)).length=O0.length/\ej (O.set (j+V.length) (t%4294967296))/\t/9223372036854775808<=1 /\
 val (O.set (j+V.length) (t%4294967296))+q*(4294967296^j*val V)=val O0+4294967296^(j+V.length+1)*(t/9223372036854775808) /\
 ∀ i,j+V.length<i->(O.set (j+V.length) (t%4294967296)).getD i 0=O0.getD i 0:=by
 have lh:j+V.length<O.length:=by rw[h.len];omega
 have hc:=h.KM;have hb:=h.KC;have hu:=h.ok.getD (j+V.length);have hd:t%4294967296+c+b=O.getD (j+V.length) 0+4294967296*(t/9223372036854775808):= ae ;refine⟨by rw[bZ];exact h.len,h.ok.set _ (aS _ ag), ae,?_,fun i hi=>by rw[getD_set_ne ae];exact h.same i ae⟩;have h1:=tV (x:=t%4294967296) lh;have h2:=h.vl;rw[agR]at h2;have h4:=congrArg (4294967296^(j+V.length) * ·) hd;simp only[aY]at h4;rw[aN,aP];rw[aY]at h2;omega
structure rJ(O0:List Nat)(j:Nat)(V:List Nat)(k:Nat)(O:List Nat)(c:Nat):Prop where
 len:O.length=O0.length
 ok:ej O
 vl:val O+4294967296^(j+k)*c=val O0+4294967296^j*val (V.take k)
 same:∀ i,j+k<=i->O.getD i 0=O0.getD i 0
 Fi:c<=1
theorem rJ.start{O0:List Nat}(h:ej O0)(j:Nat)(V:List Nat):rJ O0 j V 0 O0 0:=
 ⟨rfl,h,by simp[val],fun _ _=>rfl, ag⟩
theorem rJ.step{O0 V O:List Nat}{j k c:Nat}(h:rJ O0 j V k O c)(hV:ej V)(hk:k<V.length)(hj:j+V.length<O0.length):
 rJ O0 j V (k+1) (O.set (j+k) ((O.getD (j+k) 0+V.getD k 0+c)%4294967296)) ((O.getD (j+k) 0+V.getD k 0+c)/4294967296):=by
 have lh:j+k<O.length:=by rw[h.len];omega
 have hu:=h.ok.getD (j+k);have hy:=hV.getD k;have hc:=h.Fi;refine⟨by rw[bZ];exact h.len,h.ok.set _ (aS _ ag),?_,fun i hi=>by rw[getD_set_ne ae];exact h.same i ae, ae⟩;have h1:=tV (x:=(O.getD (j+k) 0+V.getD k 0+c)%4294967296) lh;have h2:=h.vl;have h4:=congrArg (4294967296^(j+k) * ·) (cM (O.getD (j+k) 0+V.getD k 0+c) 4294967296);simp only[aY]at h4;rw[pY,aY (4294967296^j),<-aP (4294967296^j),<-aH,show j+(k+1)=j+k+1 from rfl,aN,aP];omega
theorem rJ.last{O0 V O:List Nat}{j c:Nat}(h:rJ O0 j V V.length O c)(hj:j+V.length<O0.length):
 (O.set (j+V.length) ((O.getD (j+V.length) 0+c)%4294967296)).length=O0.length/\ej (O.set (j+V.length) ((O.getD (j+V.length) 0+c)%4294967296)) /\
 (∃ κ,κ<=1/\val (O.set (j+V.length) ((O.getD (j+V.length) 0+c)%4294967296))+4294967296^(j+V.length+1)*κ=val O0+4294967296^j*val V) /\
 ∀ i,j+V.length<i->(O.set (j+V.length) ((O.getD (j+V.length) 0+c)%4294967296)).getD i 0=O0.getD i 0:=by
 have lh:j+V.length<O.length:=by rw[h.len];omega
 have hu:=h.ok.getD (j+V.length);have hc:=h.Fi;refine⟨by rw[bZ];exact h.len,h.ok.set _ (aS _ ag),⟨(O.getD (j+V.length) 0+c)/4294967296, ae,?_⟩,fun i hi=>by rw[getD_set_ne ae];exact h.same i ae⟩;have h1:=tV (x:=(O.getD (j+V.length) 0+c)%4294967296) lh;have h2:=h.vl;rw[agR]at h2;have h4:=congrArg (4294967296^(j+V.length) * ·) (cM (O.getD (j+V.length) 0+c) 4294967296);simp only[aY]at h4;rw[aN,aP];omega
theorem EA{O:List Nat}(h:ej O){k:Nat}(hz:∀ i,k<=i->O.getD i 0=0):val O<4294967296^k:=by
 by_cases hk:O.length<=k
 .exact a7 (iG h) (aR ag hk)
 .rw [zg O k ae]
  have:val (O.drop k)=0:=by
   rw[val_eq_zero_iff];intro x hx;obtain⟨i,hi⟩:=cG.1 hx;rw[dF]at hi;have:=hz (k+i) ae;rw[aF,hi]at this;exact this
  rw[this,bQ,bd];have h1:=iG (h.take k);rw[bB,cw ae]at h1;exact h1
theorem afl{O:List Nat}(h:ej O){k:Nat}(hv:val O<4294967296^k){i:Nat}(hi:k<=i):O.getD i 0=0:=by
 have h1:val (O.drop k)=0:=by rw[BW h,bW hv]
 rw[val_eq_zero_iff]at h1;rw[aF];cases hg:O[i]? with
 | none=>rfl
 | some x=>exact h1 x (cG.2 ⟨i-k,by rw[dF,show k+(i-k)=i by omega];exact hg⟩)
theorem Ln{u u' V P x:Nat}(hP:0<P)(hV:0<V)(h:u'+x*(P*V)=u)(hx:u/P/V<=x):x=u/P/V/\u'<V*P:=by
 have h1:x*V<=u/P:=by
  rw[ct hP,aP,aQ V P];omega
 have h2:x<=u/P/V:=(ct hV).2 h1;have h3:x=u/P/V:= ae ;refine⟨h3,?_⟩;have e1:=bM u P;have e2:=aS u hP;have e3:=bM (u/P) V;have e4:=aS (u/P) hV;rw[<-h3]at e3;have e5:P*(u/P)=x*(P*V)+P*(u/P%V):=by
  rw[<-e3,aY,e3,aQ V x,cC]
 have e6:P*(u/P%V)+P<=V*P:=by
  rw[aQ V P,<-Nat.mul_succ];exact bN P e4
 omega
theorem Vp{u u' u'' V P R x κ:Nat}(hP:0<P)(hV:0<V)(h:u'+x*(P*V)=u+R)(h':u'<R)(hx:x<=u/P/V+1)
 (hk:κ<=1) (h2:u''+R*κ=u'+P*V) (h3:u''<R):0<x/\x-1=u/P/V/\u''+(x-1)*(P*V)=u/\u''<V*P:=by
 have kn:u/P<x*V:=by
  rw[bC hP,aP,aQ V P];omega
 have th:u/P/V<x:=by rw[bC hV];exact kn
 have nD:x=u/P/V+1:=Nat.le_antisymm hx th;obtain⟨y,hy⟩:∃ y,y=u/P/V:=⟨_,rfl⟩
 rw[<-hy]at nD;subst nD;rw[dj];have e0:(y+1)*(P*V)=y*(P*V)+P*V:=Nat.succ_mul _ _;have e1:y*(P*V)<=u:=by
  have:y*V<=u/P:=by rw[hy];exact ch _ _
  have:=(ct hP).1 this;rw[aP,aQ V P]at this;exact this
 have hκ:κ=1:=by
  apply bh;intro q;obtain rfl:κ=0:= ae ;omega
 subst hκ;have e2:u''+y*(P*V)=u:= ae ;exact⟨ ae,hy,e2,(Ln hP hV e2 ae).2⟩
def dcond(q rest third v w x:Nat):Prop:=rest+x*v<4294967296/\(rest+x*v)*4294967296+third<(q-x)*w
theorem Lj{X q rest third v w:Nat}(hx:q*v+rest=X)(hq:q<=4294967295)(hv:2147483648<=v)(hw:w<4294967296):
 ∃ N,N<=2/\N<=q/\(∀ x,x<N->dcond q rest third v w x)/\¬dcond q rest third v w N/\q-N<=(X*4294967296+third)/(v*4294967296+w)/\(N=0\/(X*4294967296+third)/(v*4294967296+w)<=q-N):=by
 have stop:∀ {q' r':Nat},q'*v+r'=X->q'<=4294967295->¬(r'<4294967296/\r'*4294967296+third<q'*w)->q'<=(X*4294967296+third)/(v*4294967296+w):=fun {q' r'} h1 h2 h3=>
  Vo h1 h2 hw ae (by
   by_cases hr:4294967296<=r'
   .exact .inl hr
   .refine .inr (Nat.le_of_not_lt fun hn=>h3 ⟨Nat.lt_of_not_le hr,hn⟩))
 by_cases h0:dcond q rest third v w 0
 .have g0:=h0
  unfold dcond at g0;rw[bS,bd,dw]at g0;obtain⟨k1,k2,k3⟩:=Lm hx ae g0.2;by_cases h1:dcond q rest third v w 1
  .have g1:=h1
   unfold dcond at g1;rw[aK]at g1;obtain⟨l1,l2,l3⟩:=Lm k3 ae g1.2;have h2:¬dcond q rest third v w 2:=fun h=>by unfold dcond at h;omega
   refine⟨2,aG _, ae,fun x hx=>?_,h2,?_,.inr l1⟩
   .obtain rfl|rfl:x=0\/x=1:= ae 
    .exact h0
    .exact h1
   .refine stop (r':=rest+v+v) l3 ae fun h=> ae 
  .refine ⟨1, ag,k2,fun x hx=>?_,h1,?_,.inr k1⟩
   .obtain rfl:x=0:= ae 
    exact h0
   .unfold dcond at h1
    rw[aK]at h1;exact stop k3 ae h1
 .refine ⟨0, ag,bq _,fun x hx=>absurd hx (aV x),h0,?_,.inl rfl⟩
  unfold dcond at h0;rw[bS,bd,dw]at h0;exact stop hx hq h0
theorem Vy{a b s q r:Nat}(hb:0<b)(h:r+b*2^s*q=a*2^s)(hr:r<b*2^s):q=a/b/\r=a%b*2^s:=by
 have hp:0<2^s:=aJ ag;have h1:r%2^s=0:=by
  have:=congrArg (· % 2^s) h;simp only[agZ]at this;rw[aP,cC,dh]at this;exact this
 obtain⟨t,ht⟩:∃ t,r=t*2^s:=⟨r/2^s,by rw[Nat.div_mul_cancel (Nat.dvd_of_mod_eq_zero h1)]⟩
 subst ht;have h2:(t+b*q)*2^s=a*2^s:=by rw[aO,<-h,agY]
 have h3:=Nat.eq_of_mul_eq_mul_right hp h2;have h4:t<b:=Nat.lt_of_mul_lt_mul_right hr;constructor
 .rw [<-h3,agA _ _ hb,bW h4,bK]
 .rw [<-h3,dh,bn h4]
theorem Ru{O:List Nat}(h:ej O){j n:Nat}(hn:2<=n)(hz:∀ i,j+n<i->O.getD i 0=0):
 val O/4294967296^j/4294967296^(n-2)=(O.getD (j+n) 0*4294967296+O.getD (j+n-1) 0)*4294967296+O.getD (j+n-2) 0:=by
 rw[bY,<-aH,<-BW h];have e:∀ (l:List Nat),ej l->(∀ i,2<i->l.getD i 0=0)->val l=(l.getD 2 0*4294967296+l.getD 1 0)*4294967296+l.getD 0 0:=by
  intro l hl hz;rcases l with _|⟨a,_|⟨b,_|⟨c,l⟩⟩⟩
  .rfl
  .simp [val]
  .simp [val];omega
  .have:val l=0:=by
    rw[val_eq_zero_iff];intro x hx;obtain⟨i,hi⟩:=cG.1 hx;have:=hz (i+3) ae;rw[aF]at this;simp only[List.getElem?_cons_succ,hi]at this;exact this
   simp[val,this];omega
 have g:∀ i,(O.drop (j+(n-2))).getD i 0=O.getD (j+(n-2)+i) 0:=fun i=>by
  rw[aF,dF,aF]
 rw[e _ (h.drop _) (fun i hi=>by rw[g];exact hz _ ae),g,g,g];rw[show j+(n-2)+2=j+n by omega,show j+(n-2)+1=j+n-1 by omega,show j+(n-2)+0=j+n-2 by omega]
theorem afj{V:List Nat}(h:ej V){n:Nat}(hn:2<=n)(hl:V.length=n):val V/4294967296^(n-2)=V.getD (n-1) 0*4294967296+V.getD (n-2) 0:=by
 have:=Ru (O:=V) h (j:=0) (n:=n) hn (fun i hi=>by rw[aF,bu ae];rfl);rw[bG,agy,bK]at this;rw[this,show V.getD n 0=0 by rw[aF,bu ae];rfl];omega
end Go.Proofs.YtdgnpeddgdclhaaGreatDoor.Fp
namespace Go.Proofs.YtdgnpeddgdclhaaGreatDoor
open Go.RowKit Fp
def Rx(w:World)(b:Nat)(L:List Nat)(R:List Value):Prop:=w.heap[b]? = some (.cells (jT L++R).toArray 79 (0,0))
section
variable {w w':World} {b:Nat} {L:List Nat} {R:List Value}
theorem Rx.lt(h:Rx w b L R):b<w.heap.size:=(cr.1 h).1
theorem Rx.cell(h:Rx w b L R){i:Nat}(hi:i<L.length):w.cell? ⟨b,i,none⟩=some (.int .u32 (L.getD i 0:Int)):=by
 unfold Rx at h;simp only[World.cell?,h];simp[jT,hi,ag1]
theorem Rx.frozen(h:Rx w b L R)(i:Nat):w.frozen? ⟨b,i,none⟩=false:=by
 unfold Rx at h;simp[World.frozen?,h]
theorem Rx.set(h:Rx w b L R){i:Nat}(hi:i<L.length)(x:Nat):Rx (w.setCell ⟨b,i,none⟩ (.int .u32 (x:Int))) b (L.set i x) R:=by
 unfold Rx at h ⊢;simp only[World.setCell,agD,h];simp[jT,List.map_set,List.set_append,hi]
theorem Rx.same(h:Rx w b L R)(hb:w'.heap[b]? = w.heap[b]?):Rx w' b L R:=by unfold Rx at h ⊢;rw[hb];exact h
end
structure oo(b:Nat)(w w':World):Prop where
 below:Below b w w'
 size:w'.heap.size=w.heap.size
 lf:∀ x,x≠b->w'.heap[x]? = w.heap[x]?
theorem oo.refl(b:Nat)(w:World):oo b w w:=⟨Below.refl _ _,rfl,fun _ _=>rfl⟩
theorem oo.BI{b:Nat}{w w':World}(h:oo b w w')(i:Nat)(v:Value):oo b w (w'.setCell ⟨b,i,none⟩ v):=
 ⟨h.below.setCell (p:=⟨b,i,none⟩) (aG _) v,by
  have:(w'.setCell ⟨b,i,none⟩ v).heap.size=w'.heap.size:=by simp[World.setCell]
  rw[this,h.size],fun x hx=>by
  rw[<-h.lf x hx];simp only[World.setCell,agD];rw[aB (fun e=>hx e.symm)]⟩
def JO(b:Nat)(A:Option Addr):Prop:=∀ b' o s,A=some ⟨b',o,s⟩->b'≠b
theorem Sl.lf{w w':World}{A:Option Addr}{c b:Nat}{L:List Nat}(h:Sl w A c L)(ha:JO b A)(ho:oo b w w'):Sl w' A c L:=
 ⟨h.cap,h.lq,h.ok,h.none_,fun i x hx=>by
  obtain⟨b',o,e,h1,h2⟩:=h.cell i x hx;refine⟨b',o,e,by rw[ho.size];exact h1,?_⟩;rw[<-h2];exact(World.cell?_of_block (w:=w) (w':=w') (ho.lf b' (ha _ _ _ e)))⟩
theorem R0{u m b:Nat}(hm:m<4294967296)(hb:b<=4294967296):
 IntKind.u64.wrap (IntKind.u64.wrap ((u:Int)-(m:Int))-(b:Int))=(((u+18446744073709551616-m-b)%18446744073709551616:Nat):Int):=by
 rw[IntKind.wrap_u64,IntKind.wrap_u64];omega
theorem afb(b j cu c q:Nat)(O V:List Nat)(R:List Value)(A:Option Addr)(w:World)(hu:Rx w b O R)(hv:Sl w A c V)(hA:JO b A)(iu:ej O)(hj:j+V.length<O.length)(hq:q<=4294967295)(hl:O.length<=1000000):
 Calls Tryz.prog 341 #[.slice (some ⟨b,j,none⟩) (V.length+1) cu,.slice A V.length c,.int .u64 q] w fun e w'=>∃ (O':List Nat) (δ:Nat),e = .returned (.bool (decide (δ=1)))/\Rx w' b O' R/\O'.length=O.length/\ej O'/\δ<=1 /\
  val O'+q*(4294967296^j*val V)=val O+4294967296^(j+V.length+1)*δ/\(∀ i,j+V.length<i->O'.getD i 0=O.getD i 0)/\oo b w w':=by
 obtain⟨n,hn⟩:∃ n,n=V.length:=⟨_,rfl⟩
 rw[<-hn]at hj ⊢;have HN:=Lib.hid hn;have HJ:=Lib.hid hj;clear hn;have fE:n<=1000000:= ae ;have hjl:j<=1000000:= ae ;clear hj;have HT0:=Lib.hid (rL.start iu j q V);clear iu;have HO:=Lib.hid (oo.refl b w);have HU:=Lib.hid hu;clear hu;go_enter Tryz.func341,Tryz.ntmps341;go_wp2;go_loopw [7,8,9,10,11,12,16] (fun cy bo _ _ _ _ i wr=>∃ (k c' b':Nat) (O':List Nat),k<=n/\i = .int .i64 k/\cy = .int .u64 c'/\bo = .int .u64 b'/\rL O j q V k O' c' b'/\Rx wr b O' R/\oo b w wr) (fun _ _ _ _ _ _ i _=>n-(intOf i).toNat)
 case atStart=>
  exact⟨0,0,0,O,bq _,rfl,rfl,rfl,HT0.out,HU.out,HO.out⟩
 case round=>
  obtain⟨k,c',b',O',hk,rfl,rfl,rfl,ht,hR,ho⟩:=hrel;clear HT0 HO HU;have HTk:=Lib.hid ht;have eB:=ht.KC;have C5:=ht.KM;have HOl:=Lib.hid ht.len;clear ht;have G5:=hv.lf hA ho;by_cases ek:k<n
  .have s6:k<V.length:=by rw[<-HN.out];exact ek
   obtain⟨ab,ao,e1,_,c1⟩:=G5.at_ s6;have lp:V.getD k 0<4294967296:=hv.ok.getD k;have ND:V[k]=V.getD k 0:=by simp[aF,s6]
   rw[ND]at c1;have lh:j+k<O'.length:=by rw[HOl.out];have:=HJ.out;omega
   have c2:=hR.cell lh;have c3:=hR.frozen (j+k);have AM:O'.getD (j+k) 0<4294967296:=HTk.out.ok.getD _;obtain⟨oI,fX,AJ,Nn⟩:=afc hq lp C5 eB AM;have HST:=Lib.hid (HTk.out.step (b':=((O'.getD (j+k) 0+18446744073709551616-(q*V.getD k 0+c')%4294967296-b')%18446744073709551616)/9223372036854775808) s6 (by rw[<-HN.out];exact HJ.out) (aS _ ag) fX AJ Nn);have HRS:=Lib.hid (fun x:Nat=>hR.set lh x);have HOS:=Lib.hid (fun(v:Value)=>ho.BI (j+k) v);clear hR ho HTk lh ND s6 Nn HOl G5;subst e1;have Dd:q*V.getD k 0<=4294967295*4294967295:=cz hq ae;have wi:IntKind.u64.wrap ((q:Int)*(V.getD k 0:Int))=((q*V.getD k 0:Nat):Int):=by rw[<-dK];exact lY _ ae 
   generalize V.getD k 0=y at *
   generalize q*y=z at *
   have G6:IntKind.u64.wrap ((z:Int)+(c':Int))=((z+c':Nat):Int):=by rw[<-ag7];exact lY _ ae 
   generalize O'.getD (j+k) 0=u at *
   generalize z+c'=s at *
   have s8:bits .and .u64 (s:Int) 4294967295=((s%4294967296:Nat):Int):=by rw[sK s ae];omega
   have agl:s%4294967296<4294967296:=aS _ ag;have hd:(s:Int)/4294967296=((s/4294967296:Nat):Int):= ae ;generalize s%4294967296=m at *
   generalize s/4294967296=s2 at *
   have Zl:=R0 (u:=u) (m:=m) (b:=b') ae ae;generalize (u+18446744073709551616-m-b')%18446744073709551616=t at *
   have sY:(j:Int)+(k:Int)=((j+k:Nat):Int):= ae ;go_wp2;go_roundw
   case rel=>
    have e1:((t:Int)%4294967296)=((t%4294967296:Nat):Int):= ae ;exact⟨k+1,s2,t/9223372036854775808,O'.set (j+k) (t%4294967296), ae,by go_num,by go_num,by go_num,HST.out,by rw[e1];exact HRS.out _,HOS.out _⟩
   case measure=>simp[intOf];omega
  .obtain rfl:k=n:= ae 
   have GI:j+k<O.length:=HJ.out;have HTk':=Lib.hid (show rL O j q V V.length O' c' b' by rw[<-HN.out];exact HTk.out);have HL:=HTk'.out.last (t:=(O'.getD (j+k) 0+18446744073709551616-c'-b')%18446744073709551616) (by rw[<-HN.out];exact GI) (by rw[<-HN.out]);rw[<-HN.out]at HL;have HT:=Lib.hid HL;clear HL;have lh:j+k<O'.length:=by rw[HOl.out];exact GI
   have c2:=hR.cell lh;have c3:=hR.frozen (j+k);have AM:O'.getD (j+k) 0<4294967296:=HTk.out.ok.getD _;have HRS:=Lib.hid (fun x:Nat=>hR.set lh x);have HOS:=Lib.hid (fun(v:Value)=>ho.BI (j+k) v);clear hR ho HTk HTk' lh GI HOl G5;generalize O'.getD (j+k) 0=u at *
   have Zl:=R0 (u:=u) (m:=c') (b:=b') C5 ae;have htl:(u+18446744073709551616-c'-b')%18446744073709551616<18446744073709551616:=aS _ ag;generalize (u+18446744073709551616-c'-b')%18446744073709551616=t at *
   have sY:(j:Int)+(k:Int)=((j+k:Nat):Int):= ae ;go_wp2;go_ret;have e1:((t:Int)%4294967296)=((t%4294967296:Nat):Int):= ae ;obtain⟨t1,t2,t3,t4,t5⟩:=HT.out;exact⟨O'.set (j+k) (t%4294967296),t/9223372036854775808,Qt (a:=(((t:Int)/9223372036854775808)==1)) (by rw[c9,beq_iff_eq,ahl];omega),by rw[e1];exact HRS.out _,t1,t2,t3,t4,t5,HOS.out _⟩
open Go.RowKit Fp
theorem Pg(A:Option Addr)(c:Nat)(L:List Nat)(n:Nat)(w:World)(hs:Sl w A c L)(hlen:L.length<=100000000)(hn:n<=65536):
 Calls Tryz.prog 204 #[.slice A L.length c,.int .i64 n] w (fun e w'=>∃ T v,e = .returned v/\val T=val L*2^n/\T.length=n/32+(dZ L).length+1/\Ow w' w.heap.size v T/\Ext w w'):=by
 have hT:=Lib.hid (pO A c L w hs);have fX:=hs.trim;have jC:=ky L;have hC:=fX.cap;have hL:=hs.lq;unfold ig at jC;have hv:=Lib.hid (kS L);generalize dZ L=M at *
 obtain⟨m,hm⟩:∃ m,m=M.length:=⟨_,rfl⟩
 rw[<-hm]at hT jC hC;have HM:=Lib.hid hm;clear hm;have kX:=Ic (n/32) (n/32+m+1) ae ae;rw[show((n/32:Nat):Int)=(n:Int)/32 by omega,show((n/32+m+1:Nat):Int)=(n:Int)/32+m+1 by omega]at kX;have Al:=Lib.hid (Ow.made w w.heap.size (n/32) (n/32+m+1) (aG _) ae ae);go_enter Tryz.func204,Tryz.ntmps204;go_wp2_with fail;refine hT.out.mono ?_;rintro e w' ⟨rfl,rfl⟩;go_wp2;go_loopw [5,6,23] (fun v cy i wr=>∃ (k q:Nat) (O:List Nat),k<=m/\i = .int .i64 k/\cy = .int .u64 q/\q<2^(n%32)/\O.length=n/32+k/\val O+4294967296^(n/32+k)*q=val (M.take k)*2^(n%32)*4294967296^(n/32)/\Ow wr w.heap.size v O/\Ext w wr) (fun _ _ i _=>m-(intOf i).toNat)
 case atStart=>
  exact⟨0,0,List.replicate (n/32) 0,bq _,rfl,rfl,aJ ag, aj,by simp[vc],Al.out,Ext.alloc _ _⟩
 case round=>
  obtain⟨k,q,O,hk,rfl,rfl,hq,hO,gM,gy,hb⟩:=hrel;have HV:=Lib.hid gM;have HO:=Lib.hid hO;have Ak:O.length<=200000000:= ae ;have qt:=Lib.hid hq;clear gM hO hq;obtain⟨OA,Oc,rfl,vS⟩:=gy.sl;by_cases ek:k<m
  .have kD:k<M.length:=by have:=HM.out;omega
   obtain⟨ab,ao,rfl,_,c1⟩:=(fX.below hb).at_ kD;have iL:M[k]<4294967296:=fX.ok.get kD;have HX:=Lib.hid (Jn (c:=q) (s:=n%32) (n0:=n/32) kD HO.out HV.out);generalize M[k]=x at *
   obtain⟨hw,AO,se⟩:=Jo x q (n%32) iL (aS _ ag) qt.out;generalize x*2^(n%32)+q=z at *
   have AP:=Lib.hid se;clear se;have ie:O.length+[z%4294967296].length<=10000000000:= av ;go_wp2_with (at_builtin;go_must (refine mU ai _ _ ai w.heap.size _ O ai (gy.alloc _) _ _ _ [z%4294967296] ai ai (Sl.pn _ _ (z%4294967296) ae ae) ie (lQ hb.size _) ?_);intro v' w1 jY hg kB)
   go_roundw
   case rel=>
    exact⟨k+1,z/4294967296,O++[z%4294967296], ae,by go_num,by go_num,AP.out,by rw[bO,HO.out];rfl,HX.out,jY,(hb.trans (Ext.alloc _ _)).own _ _ (gy.alloc _) hg⟩
   case measure=>simp[intOf];omega
  .obtain rfl:k=m:= ae 
   have ie:O.length+[q].length<=10000000000:= av ;have Dk:q<4294967296:=by
    have:=qt.out;have hp:2^(n%32)<=2^31:=aR ag ae;have e31:(2:Nat)^31=2147483648:= ag ;omega
   have Nl:(q:Int)%4294967296=q:= ae ;go_wp2_with (at_builtin;go_must (refine mU ai _ _ ai w.heap.size _ O ai (gy.alloc _) _ _ _ [q] ai ai (Sl.pn _ _ q ae ae) ie (lQ hb.size _) ?_);intro v' w1 jY hg kB)
   go_ret;refine⟨O++[q],v',rfl,?_,by rw[bO,HO.out,<-HM.out];rfl,jY,(hb.trans (Ext.alloc _ _)).own _ _ (gy.alloc _) hg⟩;have h:=HV.out;rw[bU (by rw[HM.out];exact aG _)]at h;rw[pX,HO.out,lZ,tS,bQ,bd,h,<-hv.out,kQ,aP,<-aH];congr 2;omega
end Go.Proofs.YtdgnpeddgdclhaaGreatDoor
namespace Go.Proofs.YtdgnpeddgdclhaaGreatDoor.Fp
def fJ(n k:Nat):Nat:=n/4294967296^k%4294967296
theorem vw(n k:Nat):fJ n k<4294967296:=aS _ ag 
theorem Vn(k:Nat):fJ 0 k=0:=by unfold fJ;rw[Nat.zero_div]
theorem pw(k:Nat):0<4294967296^k:=aJ ag 
theorem lL{L:List Nat}(h:ej L)(k:Nat):L.getD k 0=fJ (val L) k:=by
 unfold fJ;rw[<-BW h];by_cases hk:k<L.length
 .rw [agC hk,show val (L[k]::L.drop (k+1))=L[k]+4294967296*val (L.drop (k+1))from rfl,dh,bn (h.get hk)]
  simp[aF,hk]
 .rw [di ae,aF,bu ae];rfl
theorem mod_succ(n k:Nat):n%4294967296^(k+1)=n%4294967296^k+4294967296^k*fJ n k:=by
 rw[aN,Nat.mod_mul];rfl
theorem zV{n k:Nat}(h:n<4294967296^k){j:Nat}(hj:k<=j):fJ n j=0:=by
 unfold fJ;rw[bW (a7 h (aR ag hj))]
def fw(n m:Nat):List Nat:=(List.range m).map (fJ n)
theorem lJ(n m:Nat):(fw n m).length=m:=by simp[fw]
theorem qe(n m:Nat):ej (fw n m):=fun x hx=>by
 obtain⟨k,_,rfl⟩:=cB.1 hx;exact vw n k
theorem xz{n m k:Nat}(h:k<m):(fw n m).getD k 0=fJ n k:=by
 simp[fw,aF,h]
theorem Lp(m i:Nat):(fw 0 m).getD i 0=0:=by
 by_cases h:i<m
 .rw [xz h,Vn]
 .rw [aF,bu (by rw[lJ];omega)];rfl
theorem Vr(n m:Nat):fw n (m+1)=fw n m++[fJ n m]:=by simp[fw,List.range_succ]
theorem tR(n m:Nat):val (fw n m)=n%4294967296^m:=by
 induction m with
 | zero=>simp[fw,val];omega
 | succ m ih=>
  rw[Vr,pX,ih,lJ,mod_succ];rfl
theorem val_inj{L M:List Nat}(hL:ej L)(hM:ej M)(hl:L.length=M.length)(hv:val L=val M):L=M:=by
 apply List.ext_getElem hl;intro i h1 h2;have e1:=lL hL i;have e2:=lL hM i;rw[hv,<-e2]at e1;simpa[aF,h1,h2]using e1
theorem Vs{L:List Nat}(h:ej L):fw (val L) L.length=L:=
 val_inj (qe _ _) h (lJ _ _) (by rw[tR,bn (iG h)])
theorem CA{L:List Nat}{n m:Nat}(h:ej L)(hl:L.length=m)(hv:val L=n):fw n m=L:=by subst hl hv;exact Vs h
theorem BT{n m:Nat}(h:n<4294967296^m):dZ (fw n m)=dN n:=by
 rw[mu (qe n m),tR,bn h]
def kE(a b k m:Nat):List Nat:=(List.range m).map fun j=>if j<k then fJ a j else fJ b j
theorem aaZ(a b k m:Nat):(kE a b k m).length=m:=by simp[kE]
theorem aa1(a b m:Nat):kE a b 0 m=fw b m:=by simp[kE,fw]
theorem aaY{a b k m:Nat}(h:m<=k):kE a b k m=fw a m:=by
 unfold kE fw;exact ag4 fun j hj=>aC (a7 (bt.1 hj) h)
theorem agu{a b k m:Nat}:(kE a b k m).set k (fJ a k)=kE a b (k+1) m:=by
 apply List.ext_getElem
 .simp [kE]
 .intro j h1 h2
  have hj:j<m:=by simpa[kE]using h2
  rw[List.getElem_set];by_cases h:k=j
  .subst h;simp[kE]
  .rw [aB h]
   simp only[kE,List.getElem_map,List.getElem_range];by_cases q:j<k
   .rw [aC q,aC ae]
   .rw [aB q,aB ae]
theorem aa0{a b k m:Nat}:(kE a b (k+1) m).set k (fJ b k)=kE a b k m:=by
 apply List.ext_getElem
 .simp [kE]
 .intro j h1 h2
  have hj:j<m:=by simpa[kE]using h2
  rw[List.getElem_set];by_cases h:k=j
  .subst h;simp[kE]
  .rw [aB h]
   simp only[kE,List.getElem_map,List.getElem_range];by_cases q:j<k
   .rw [aC q,aC ae]
   .rw [aB q,aB ae]
theorem Fz(a k:Nat):a/4294967296^k=4294967296*(a/4294967296^(k+1))+fJ a k:=by
 rw[aN,<-bY];unfold fJ;omega
theorem aec{a d k:Nat}(hd:0<d)(xT:d<4294967296):(a/4294967296^(k+1)%d*4294967296+fJ a k)/d=fJ (a/d) k/\(a/4294967296^(k+1)%d*4294967296+fJ a k)%d=a/4294967296^k%d:=by
 have e1:=Fz a k;have e2:=bM (a/4294967296^(k+1)) d;have e3:=aS (a/4294967296^(k+1)) hd;have e4:=vw a k;have e5:a/4294967296^k=d*(4294967296*(a/4294967296^(k+1)/d))+(a/4294967296^(k+1)%d*4294967296+fJ a k):=by
  rw[e1,cC];omega
 have e6:(a/4294967296^(k+1)%d*4294967296+fJ a k)/d<4294967296:=by
  rw[bC hd];have:=a6 4294967296 (show a/4294967296^(k+1)%d+1<=d from e3);omega
 constructor
 .conv=>rhs;unfold fJ
  rw[bY,aQ d,<-bY,e5,agL hd,agM,bn e6]
 .rw [e5,agM]
theorem LL{a b N:Nat}(ha:a<4294967296^N)(hb:b<4294967296^N)(h:∀ i,i<N->fJ a i=fJ b i):a=b:=by
 have e1:val (fw a N)=a:=by rw[tR,bn ha]
 have e2:val (fw b N)=b:=by rw[tR,bn hb]
 rw[<-e1,<-e2];congr 1;exact ag4 fun j hj=>h j (bt.1 hj)
theorem VA{a b N j:Nat}(ha:a<4294967296^N)(hb:b<4294967296^N)(h:∀ i,j<=i->fJ a i=fJ b i):a/4294967296^j=b/4294967296^j:=by
 have e:∀ (n i:Nat),fJ (n/4294967296^j) i=fJ n (j+i):=fun n i=>by unfold fJ;rw[bY,<-aH]
 refine LL (N:=N) (bE (bj _ _) ha) (bE (bj _ _) hb) fun i _=>?_
 rw[e,e];exact h _ ae 
theorem Oz{a b N j:Nat}(ha:a<4294967296^N)(hb:b<4294967296^N)(h:∀ i,j<i->fJ a i=fJ b i)(hd:fJ a j<fJ b j):a<b:=by
 have e:=VA (j:=j+1) ha hb fun i hi=>h i hi
 have e1:=Fz a j;have e2:=Fz b j;have:a/4294967296^j<b/4294967296^j:= ae ;exact Nat.lt_of_not_le fun hle=>by
  have:=Nat.div_le_div_right (c:=4294967296^j) hle;omega
theorem TD{n k:Nat}(h:n<4294967296^(k+1))(hd:fJ n k≠0):dU n=32*k+dU (fJ n k):=by
 have e1:fJ n k=n/4294967296^k:=by
  unfold fJ;rw[bn];rw[bC (pw k),aQ 4294967296,<-aN];exact h
 have h1:=oh hd;have h2:=mE (fJ n k);have h3:=jK hd;obtain⟨m,hm⟩:∃ m,dU (fJ n k)=m+1:=⟨dU (fJ n k)-1, ae⟩
 rw[hm]at h1 h2 ⊢;rw[dj]at h1;rw[<-ck];have hp:(4294967296:Nat)^k=2^(32*k):=kQ k;refine qQ ?_ ?_
 .rw [e1,ct (pw k),hp,<-aH,Nat.add_comm]at h1;exact h1
 .rw [e1,bC (pw k),hp,<-aH,show m+1+32*k=32*k+m+1 by omega]at h2;exact h2
def fB(a b k:Nat):Nat:=(a%4294967296^k+b%4294967296^k)/4294967296^k
theorem KQ(a b:Nat):fB a b 0=0:=by unfold fB;simp[cF]
theorem xr(a b k:Nat):fB a b k<=1:=by
 unfold fB;have h1:=aS a (pw k);have h2:=aS b (pw k);have:(a%4294967296^k+b%4294967296^k)/4294967296^k<2:=by rw[bC (pw k)];omega
 omega
theorem EV(a b k:Nat):(a+b)/4294967296^k=a/4294967296^k+b/4294967296^k+fB a b k:=by
 unfold fB;have h1:=bM a (4294967296^k);have h2:=bM b (4294967296^k);have h3:=agL (pw k) (a/4294967296^k+b/4294967296^k) (a%4294967296^k+b%4294967296^k);rw[<-h3];congr 1;rw[aY];omega
theorem J7(a b k:Nat):fJ a k+fJ b k+fB a b k=fJ (a+b) k+4294967296*fB a b (k+1):=by
 have h1:fB a b (k+1)=(fJ a k+fJ b k+fB a b k)/4294967296:=by
  conv=>lhs;unfold fB
  rw[mod_succ,mod_succ,aN,<-bY];congr 1;have h3:=agL (pw k) (fJ a k+fJ b k) (a%4294967296^k+b%4294967296^k);unfold fB;rw[<-h3];congr 1;rw[aY];omega
 have h2:fJ (a+b) k=(fJ a k+fJ b k+fB a b k)%4294967296:=by
  conv=>lhs;unfold fJ
  rw[EV];unfold fJ;omega
 rw[h1,h2];exact(cM _ _).symm
theorem UY{a b k:Nat}(h:a+b<4294967296^k):fB a b k=0:=by
 have h0:=EV a b k;rw[bW h]at h0;exact(Nat.add_eq_zero_iff.1 h0.symm).2
theorem UZ{a b k:Nat}(ha:a<4294967296^k)(hb:b<4294967296^k):fB a b (k+1)=0:=by
 apply UY;rw[aN];omega
theorem aeK{a b:Nat}(h:b<=a)(k:Nat):fJ a k+4294967296-fJ b k-fB (a-b) b k=fJ (a-b) k+4294967296*(1-fB (a-b) b (k+1)):=by
 have h1:=J7 (a-b) b k;rw[agB h]at h1;have h2:=xr (a-b) b (k+1);have h3:=vw b k;have h4:=xr (a-b) b k;have h5:=vw (a-b) k;omega
theorem aee(n s k:Nat):fJ (n/2^s) k=((fJ n (k+s/32)+4294967296*fJ n (k+s/32+1))/2^(s%32))%4294967296:=by
 have e:2^s*4294967296^k=4294967296^(k+s/32)*2^(s%32):=by
  rw[kQ,kQ,<-aH,<-aH];congr 1;omega
 unfold fJ;rw[bY,e,<-bY,aN,<-bY];generalize n/4294967296^(k+s/32)=N;have hr:s%32<32:=aS _ ag;generalize s%32=r at *
 have h1:N%4294967296+4294967296*(N/4294967296%4294967296)=N%(4294967296*4294967296):=(Nat.mod_mul).symm;rw[h1];have h2:N=4294967296*(N/(4294967296*4294967296))*4294967296+N%(4294967296*4294967296):=by
  have:=bM N (4294967296*4294967296);omega
 have h3:(4294967296:Nat)=2^r*2^(32-r):=by rw[<-aH,show r+(32-r)=32 by omega]
 generalize N%(4294967296*4294967296)=u at *
 generalize N/(4294967296*4294967296)=t at *
 have h4:N/2^r=4294967296*(t*2^(32-r))+u/2^r:=by
  rw[h2];have e2:4294967296*t*4294967296=2^r*(4294967296*(t*2^(32-r))):=by
   conv=>lhs;rw[aQ]
   conv=>lhs;lhs;rw[h3]
   rw[aP,cC (2^(32-r)),aQ (2^(32-r)) t]
  rw[e2,agL (aJ ag)]
 rw[h4,agM]
theorem aeb{O:List Nat}{P x n k m:Nat}(hx:x<4294967296)(hO:O=fw (P*2^n) m)(hP:P<4294967296^k)(hm:k+n/32+1<m):
 (O.getD (k+n/32) 0)<2^(n%32)/\((O.set (k+n/32) (O.getD (k+n/32) 0+x*2^(n%32)%4294967296)).set (k+n/32+1) (x*2^(n%32)/4294967296))=fw ((P+4294967296^k*x)*2^n) m:=by
 have hr:n%32<32:=aS _ ag;have hq:(2:Nat)^n=2^(n%32)*4294967296^(n/32):=by rw[kQ,<-aH];congr 1;omega
 have sS:2^(n%32)<=2^31:=aR ag ae;have Aj:(2:Nat)^31=2147483648:= ag ;have lk:0<2^(n%32):=aJ ag;have iu:ej O:=by rw[hO];exact qe _ _
 have hlen:O.length=m:=by rw[hO,lJ]
 have hN:P*2^n<4294967296^(k+n/32)*2^(n%32):=by
  have h1:P*2^(n%32)<4294967296^k*2^(n%32):=ca hP lk;have h2:=ca h1 (pw (n/32));rw[hq,<-aP,aH,agY (4294967296^k)];exact h2
 have o0:P*2^n<4294967296^(k+n/32+1):=by
  rw[aN];exact a7 hN (bN _ ae)
 have o1:O.getD (k+n/32) 0=P*2^n/4294967296^(k+n/32):=by
  rw[hO,xz ae];unfold fJ;rw[bn];rw[bC (pw _),aQ 4294967296,<-aN];exact o0
 have o2:O.getD (k+n/32+1) 0=0:=by rw[hO,xz hm];exact zV o0 (aG _)
 have o3:O.getD (k+n/32) 0<2^(n%32):=by
  rw[o1,bC (pw _),aQ (2^(n%32))];exact hN
 refine⟨o3,?_⟩;have nD:x*2^(n%32)<4294967296*2^(n%32):=ca hx lk;have uA:O.getD (k+n/32) 0+x*2^(n%32)%4294967296<4294967296:=by
  have h3:(4294967296:Nat)=2^(n%32)*2^(32-n%32):=by rw[<-aH,show n%32+(32-n%32)=32 by omega]
  have h4:x*2^(n%32)%4294967296=2^(n%32)*(x%2^(32-n%32)):=by
   conv=>lhs;rw[aQ];rhs;rw[h3]
   exact Nat.mul_mod_mul_left _ _ _
  have h5:x%2^(32-n%32)<2^(32-n%32):=aS _ (aJ ag);have h6:=bN (2^(n%32)) (show x%2^(32-n%32)+1<=2^(32-n%32)from h5);rw[<-h3,aY,bD]at h6;omega
 have kj:k+n/32<O.length:= ae ;have we:=tV (x:=O.getD (k+n/32) 0+x*2^(n%32)%4294967296) kj;have nU:k+n/32+1<(O.set (k+n/32) (O.getD (k+n/32) 0+x*2^(n%32)%4294967296)).length:=by rw[bZ];omega
 have nX:=tV (x:=x*2^(n%32)/4294967296) nU;rw[getD_set_ne ae,o2,bQ,bd]at nX;refine(CA ((iu.set _ uA).set _ ?_) (by rw[bZ,bZ,hlen]) ?_).symm
 .rw [bC ag]
  exact a7 nD (bN _ ae)
 .have nC:val O=P*2^n:=by
   rw[hO,tR,bn];exact a7 o0 (aR ag ae)
  rw[nX];rw[nC,aY]at we;have e1:=cM (x*2^(n%32)) 4294967296;have e2:=congrArg (4294967296^(k+n/32) * ·) e1;simp only[aY]at e2;have e3:4294967296^(k+n/32)*(x*2^(n%32))=4294967296^k*x*2^n:=by
   rw[hq,aH];simp only[aP,aQ,cC]
  rw[aN,aP,aO];rw[e3]at e2;omega
structure nM(U0:Nat)(V:List Nat)(k m:Nat)(O Q:List Nat):Prop where
 Oe:O.length=m
 AY:Q.length=m-V.length
 tE:ej O
 wJ:ej Q
 eq:val O+val V*val Q=U0
 lt:val O<val V*4294967296^k
 qz:∀ i,i<k->Q.getD i 0=0
theorem nM.step{U0 k m x:Nat}{V O Q O2:List Nat}(h:nM U0 V (k+1) m O Q)(hk:k<m-V.length)(hl:O2.length=m)(iu:ej O2)(hx:x<4294967296)
 (he:val O2+x*(4294967296^k*val V)=val O) (ek:val O2<val V*4294967296^k):nM U0 V k m O2 (Q.set k x):=by
 have s5:k<Q.length:=by rw[h.AY];exact hk
 have hv:=tV (x:=x) s5;rw[h.qz k (Nat.lt_succ_self k),bQ,bd]at hv;refine⟨hl,by rw[bZ];exact h.AY,iu,h.wJ.set _ hx,?_,ek,fun i hi=>by rw[getD_set_ne ae];exact h.qz i ae⟩;rw[hv,aY,show val V*(4294967296^k*x)=x*(4294967296^k*val V)by simp only[aQ,cC,aP]];have:=h.eq;omega
theorem nM.zero{U0 k m:Nat}{V O Q:List Nat}(h:nM U0 V (k+1) m O Q)(hV:ej V){i:Nat}(hi:k+V.length<i):O.getD i 0=0:=by
 refine afl h.tE (k:=k+V.length+1) ?_ hi;refine Nat.lt_trans h.lt ?_;have:=ca (iG hV) (pw (k+1));rw[<-aH,show V.length+(k+1)=k+V.length+1 by omega]at this;exact this
theorem nM.XH{U0 k m:Nat}{V O Q:List Nat}(h:nM U0 V (k+1) m O Q)(hV:ej V)(hn:2<=V.length)(hN:2147483648<=V.getD (V.length-1) 0):
 O.getD (k+V.length) 0<=V.getD (V.length-1) 0/\∀ g,g<=4294967295 ->
  g<=((O.getD (k+V.length) 0*4294967296+O.getD (k+V.length-1) 0)*4294967296+O.getD (k+V.length-2) 0)/(V.getD (V.length-1) 0*4294967296+V.getD (V.length-2) 0) ->
  (g=4294967295\/((O.getD (k+V.length) 0*4294967296+O.getD (k+V.length-1) 0)*4294967296+O.getD (k+V.length-2) 0)/(V.getD (V.length-1) 0*4294967296+V.getD (V.length-2) 0)<=g) ->
  val O/4294967296^k/val V<=g/\g<=val O/4294967296^k/val V+1:=by
 have t3:=Ru h.tE (j:=k) hn (fun i hi=>h.zero hV hi);have t2:=afj hV hn rfl;have hU:val O/4294967296^k<4294967296*val V:=by
  rw[bC (pw k)];have:=h.lt;rw[aN]at this;rw[show 4294967296*val V*4294967296^k=val V*(4294967296^k*4294967296)by simp only[aQ,cC,aP]];exact this
 have w1:=h.tE.getD (k+V.length-1);have w2:=h.tE.getD (k+V.length-2);have w3:=hV.getD (V.length-2);refine⟨?_,fun g g1 g2 g3=>?_⟩
 .have hP:=pw (V.length-2)
  have h1:val V<(V.getD (V.length-1) 0*4294967296+V.getD (V.length-2) 0+1)*4294967296^(V.length-2):=by
   rw[<-t2,<-bC hP];omega
  have h2:val O/4294967296^k/4294967296^(V.length-2)<4294967296*(V.getD (V.length-1) 0*4294967296+V.getD (V.length-2) 0+1):=by
   rw[bC hP];refine a7 hU ?_;rw[aP];exact bN _ (cJ h1)
  rw[t3]at h2;omega
 .rw [<-t3,<-t2]at g2 g3
  exact aap (pw _) (by rw[t2];omega) hU g1 g2 g3
theorem nM.over{U0 k m x:Nat}{V O Q O':List Nat}(h:nM U0 V (k+1) m O Q)(hV:ej V)(iu:ej O')(hv:val O'+x*(4294967296^k*val V)=val O+4294967296^(k+V.length+1)*1)
 (hs:∀ i,k+V.length<i->O'.getD i 0=O.getD i 0):val O'<4294967296^(k+V.length+1)/\0<x:=by
 have h1:val O'<4294967296^(k+V.length+1):=EA iu fun i hi=>by rw[hs i ae];exact h.zero hV ae 
 refine⟨h1,?_⟩;rcases dt x with h0|h0
 .subst h0;rw[bS]at hv;omega
 .exact h0
theorem nM.back{U0 k m x κ:Nat}{V O Q O' O2:List Nat}(h:nM U0 V (k+1) m O Q)(hV:ej V)(hk:k<m-V.length)(iu:ej O')(hv:val O'+x*(4294967296^k*val V)=val O+4294967296^(k+V.length+1)*1)
 (hs:∀ i,k+V.length<i->O'.getD i 0=O.getD i 0) (hx:x<=4294967295) (nD:x<=val O/4294967296^k/val V+1) (qZ:0<val V) (jC:O2.length=m) (Nf:ej O2) (hκ:κ<=1)
 (h2:val O2+4294967296^(k+V.length+1)*κ=val O'+4294967296^k*val V) (fX:∀ i,k+V.length<i->O2.getD i 0=O'.getD i 0):nM U0 V k m O2 (Q.set k (x-1)):=by
 obtain⟨h1,h0⟩:=h.over hV iu hv hs;have h3:val O2<4294967296^(k+V.length+1):=EA Nf fun i hi=>by rw[fX i ae,hs i ae];exact h.zero hV ae 
 rw[bD]at hv;obtain⟨_,_,e,l⟩:=Vp (pw k) qZ hv h1 nD hκ h2 h3;exact h.step (x:=x-1) hk jC Nf ae e l
theorem abn{L:List Nat}{x s l:Nat}(hk:ej L)(hl:L.length=l+1)(hx:L.getD l 0=x)(kn:x≠0)(hs:s=32-dU x):
 s<32/\(dN (val L*2^s)).length=l+1/\2147483648<=(dN (val L*2^s)).getD l 0/\4294967296^l*2147483648<=val L*2^s/\val L*2^s<4294967296^(l+1):=by
 have iL:x<4294967296:=by rw[<-hx];exact hk.getD l
 have eB:=jK kn;have iR:dU x<=32:=gS.2 iL;have h1:=oh kn;have h2:=mE x;have e1:2^(dU x-1)*2^s=2147483648:=by rw[<-aH,show dU x-1+s=31 by omega]
 have e2:2^dU x*2^s=4294967296:=by rw[<-aH,show dU x+s=32 by omega]
 have hp:0<2^s:=aJ ag;have hv:val L=val (L.take l)+4294967296^l*x:=by
  have:=pY L l;rw[bU ae,hx]at this;exact this
 have uA:val (L.take l)<4294967296^l:=by
  have:=iG (hk.take l);rw[bB,cw ae]at this;exact this
 have g1:4294967296^l*2147483648<=val L*2^s:=by
  rw[<-e1,<-aP];refine a6 _ ?_;rw[hv];exact aI (bN _ h1) (Nat.le_add_left _ _)
 have g2:val L*2^s<4294967296^(l+1):=by
  have e3:4294967296^(l+1)=4294967296^l*(2^dU x*2^s):=by rw[aN,e2]
  rw[e3,<-aP];refine ca ?_ hp;rw[hv];have:=bN (4294967296^l) (show x+1<=2^dU x from h2);rw[aY,bD]at this;omega
 have hlen:(dN (val L*2^s)).length=l+1:=by
  have u1:=qA g2;have u2:¬(dN (val L*2^s)).length<=l:=fun h=>by
   have:=yG h;have:=pw l;omega
  omega
 refine⟨ ae,hlen,?_,g1,g2⟩;rw[lL (gr _),eV];unfold fJ;rw[bn (by rw[bC (pw l),aQ 4294967296,<-aN];exact g2),ct (pw l),aQ];exact g1
theorem nM.start{A s:Nat}{V O:List Nat}(hO:ej O)(hv:val O=A*2^s){la:Nat}(hA:A<4294967296^la)(hl:O.length=la+1)(hs:s<32)(hn:1<=V.length)(fE:V.length<=la)(hV:4294967296^(V.length-1)*2147483648<=val V):
 nM (A*2^s) V (la+1-V.length) (la+1) O (List.replicate (la+1-V.length) 0):=by
 refine⟨hl, aj,hO,ej.yW _,by rw[vc,bQ,bd,hv],?_,fun i _=>?_⟩
 .rw [hv]
  have sS:2^s<=2^31:=aR ag ae;have Aj:(2:Nat)^31=2147483648:= ag ;rw[Aj]at sS;have h1:A*2^s<4294967296^la*2^s:=ca hA (aJ ag);have h2:=bN (4294967296^la) sS;have h3:=a6 (4294967296^(la+1-V.length)) hV;rw[agY,<-aH,show V.length-1+(la+1-V.length)=la by omega]at h3;omega
 .rw [aF,ag6];split<;>rfl
end Go.Proofs.YtdgnpeddgdclhaaGreatDoor.Fp
namespace Go.Proofs.YtdgnpeddgdclhaaGreatDoor
open Go.RowKit Fp Pu
theorem BV(n:Nat)(h:n<18446744073709551616):bits .and .u64 (n:Int) 4294967295=((n%4294967296:Nat):Int):=by
 have:=u64_and_nat n 4294967295 h ag;rw[show((4294967295:Int))=((4294967295:Nat):Int)from rfl,this];exact congrArg _ (ahq n 32)
theorem y5(n:Nat)(h:n<4294967296):IntKind.u64.wrap ((n:Int)*2^32)=((n*4294967296:Nat):Int):=by rw[IntKind.wrap_u64];omega
theorem Bp(a b:Nat)(ha:a<4294967296)(hb:b<4294967296):bits .or .u64 ((a*4294967296:Nat):Int) (b:Int)=((a*4294967296+b:Nat):Int):=by
 rw[u64_or_nat _ _ ae ae,Nat.or_comm,show a*4294967296=a*2^32 by rfl,Bq b a 32 (by simpa using hb),Nat.add_comm]
theorem adT{T n n' p:Nat}{L L':List Nat}{z:Nat}(hn:n=n')(hp:p<L.length)(hs:L.set p z=L'):Bx.le (.row false T n 1 fun i' j'=>if i'=p/\0<=j'/\j'<0+1 then[.v (.int .u32 (z:Int))].getD (j'-0) .any else(gF L) i' j') (.row false T n' 1 (gF L')):=hs▸Jc hn hp
theorem DH{T n n':Nat}{N:Nat}{z:Int}(hn:n'=n+1)(hz:z=(fJ N n:Int)):
 Bx.le (.row false T (n+1) 1 fun i_ j_=>if i_<n then(gF (fw N n)) i_ j_ else(E.mi (.sl false 1 1 fun i_ j_=>[(.v (.int .u32 z))].getD (i_*1+j_) (.v (.bool false)))) (i_-n) j_) (.row false T n' 1 (gF (fw N n'))):=by
 subst hn hz;refine .row rfl fun i j hi hj=>?_
 obtain rfl:j=0:= ae ;refine⟨.of_eq ?_,rfl⟩;by_cases h:i<n
 .rw [aC h]
  show E.v (.int .u32 (((fw N n).getD i 0:Nat):Int))=E.v (.int .u32 (((fw N (n+1)).getD i 0:Nat):Int));rw[xz h,xz hi]
 .obtain rfl:i=n:= ae 
  rw[aB (Nat.lt_irrefl i)];show E.mi _ (i-i) 0=E.v (.int .u32 (((fw N (i+1)).getD i 0:Nat):Int));rw[xz (Nat.lt_succ_self i),cW];rfl
open Go.RowKit Fp Pu
def Li(q rest third v w:Nat)(x:Nat):PS:=⟨32,true,[(0,.e (.v (.int .u64 (((q-x):Nat):Int)))),(1,.e (.v (.int .u64 (((rest+(x*v)):Nat):Int)))),(2,.e (.v (.int .u32 (third:Int)))),(3,.e (.v (.int .u32 (v:Int)))),(4,.e (.v (.int .u32 (w:Int))))],[]⟩
def QW(L:List Nat)(d:Nat)(x:Nat):PS:=⟨34,false,[(8,.e (iP ((L.length:Int)-1-(x:Int)))),(7,.e (.v (.int .u32 (((val L/4294967296^(L.length-x)%d):Nat):Int)))),(6,.own 11),(0,.e (dO L)),(1,.e (.v (.int .u32 (d:Int))))],[(11,.row false 79 L.length 1 (gF (kE 0 (val L/d) (L.length-x) L.length)))]⟩
theorem Vt(h l d:Nat)(h1:h<d)(h2:l<4294967296)(h3:d<4294967296):dM 344 [(.v (.int .u32 (h:Int))),(.v (.int .u32 (l:Int))),(.v (.int .u32 (d:Int)))] (.ef [.v (.int .u32 ((((h*4294967296+l)/d:Nat)):Int)),.v (.int .u32 ((((h*4294967296+l)%d:Nat)):Int))]):=by
 have e1:(h*4294967296+l)/d<4294967296:=by rw[bC ae];omega
 have e2:(h*4294967296+l)%d<4294967296:=Nat.lt_trans (aS _ ae) h3;exact tr true Tryz.call344 Tryz.func344 (chain [tB 10 ( av :((d:Int) != 0)=true),tF 14 ((d:Int)<=(h:Int)) ae,.o 18 (.int (lY _ ae):PV.le (.e (.v (.int .u64 (IntKind.u64.wrap (h:Int))))) (.e (.v (.int .u64 (h:Int))))),.a ( ae :0<=(32:Int)/\(32:Int)<=((64:Nat):Int)),.o 19 (.int (y5 _ ae):PV.le (.e (.v (.int .u64 (IntKind.u64.wrap ((h:Int)*2^32))))) (.e (.v (.int .u64 (((h*4294967296):Nat):Int))))),.o 21 (.int (lY _ ae):PV.le (.e (.v (.int .u64 (IntKind.u64.wrap (l:Int))))) (.e (.v (.int .u64 (l:Int))))),.o 22 (.int (Bp _ _ ae ae):PV.le (.e (.v (.int .u64 (bits .or .u64 (((h*4294967296):Nat):Int) (l:Int))))) (.e (.v (.int .u64 (((h*4294967296+l):Nat):Int))))),.o 25 (.int (lY _ ae):PV.le (.e (.v (.int .u64 (IntKind.u64.wrap (d:Int))))) (.e (.v (.int .u64 (d:Int))))),.a ( ae :0<((d:Int):Int)),
  nJ ((((h*4294967296+l):Nat):Int)) ae,.o 27 (.int (qL _):PV.le (.e (.v (.int .u32 (IntKind.u32.wrap ((((h*4294967296+l)/d):Nat):Int))))) (.e (.v (.int .u32 (((((h*4294967296+l)/d)%4294967296):Nat):Int))))),.o 30 (.int (lY _ ae):PV.le (.e (.v (.int .u64 (IntKind.u64.wrap (d:Int))))) (.e (.v (.int .u64 (d:Int))))),.a ( ae :0<((d:Int):Int)),.o 32 (.int (qL _):PV.le (.e (.v (.int .u32 (IntKind.u32.wrap ((((h*4294967296+l)%d):Nat):Int))))) (.e (.v (.int .u32 (((((h*4294967296+l)%d)%4294967296):Nat):Int)))))]<|rQ (.ef [(.v (.int .u32 (((((h*4294967296+l)/d)%4294967296):Nat):Int))),(.v (.int .u32 (((((h*4294967296+l)%d)%4294967296):Nat):Int)))]) (.ef [.v (.int .u32 ((((h*4294967296+l)/d:Nat)):Int)),.v (.int .u32 ((((h*4294967296+l)%d:Nat)):Int))]) (by rw[bn e1,bn e2])) ah 
theorem agv(q rest third v w N:Nat)(hq:q<=4294967295)(hr:rest<9223372036854775808)(ht:third<4294967296)(hv:v<4294967296)(hw:w<4294967296)(X4:N<=q)(eC:∀ x,x<N->dcond q rest third v w x)(g1:¬rest+N*v<4294967296):dM 345 [(.v (.int .u64 (q:Int))),(.v (.int .u64 (rest:Int))),(.v (.int .u32 (third:Int))),(.v (.int .u32 (v:Int))),(.v (.int .u32 (w:Int)))] (.v (.int .u64 (((q-N:Nat)):Int))):=by
 exact tr true Tryz.call345 Tryz.func345 (chain [.s (Sp.upto (Li q rest third v w) 0 N ae (fun x hx ic=>by
    obtain⟨g1,g2⟩:=eC x ae;have m1:(q-x)*w<=4294967295*4294967295:=cz ae ae;have g3:0<q-x:=by
     rcases dt (q-x)with h|h
     .rw [h,bS]at g2;omega
     .exact h
    exact eu (chain [tT 12 ((((rest+(x*v)):Nat):Int)<4294967296) ae,.o 16 (.int (lY _ ae):PV.le (.e (.v (.int .u64 (IntKind.u64.wrap (w:Int))))) (.e (.v (.int .u64 (w:Int))))),
     nJ ((((q-x):Nat):Int)*(w:Int)) ae,.a ( ae :0<=(32:Int)/\(32:Int)<=((64:Nat):Int)),.o 19 (.int (y5 _ ae):PV.le (.e (.v (.int .u64 (IntKind.u64.wrap ((((rest+(x*v)):Nat):Int)*2^32))))) (.e (.v (.int .u64 ((((rest+(x*v))*4294967296):Nat):Int))))),.o 21 (.int (lY _ ae):PV.le (.e (.v (.int .u64 (IntKind.u64.wrap (third:Int))))) (.e (.v (.int .u64 (third:Int))))),.o 22 (.int (Bp _ _ ae ae):PV.le (.e (.v (.int .u64 (bits .or .u64 ((((rest+(x*v))*4294967296):Nat):Int) (third:Int))))) (.e (.v (.int .u64 (((((rest+(x*v))*4294967296)+third):Nat):Int))))),tT 23 ((((((rest+(x*v))*4294967296)+third):Nat):Int)<((((q-x)*w):Nat):Int)) (Int.ofNat_lt.2 g2),nJ ((((q-x):Nat):Int)-1) ae,.o 29 (.int (lY _ ae):PV.le (.e (.v (.int .u64 (IntKind.u64.wrap (v:Int))))) (.e (.v (.int .u64 (v:Int))))),nJ ((((rest+(x*v)):Nat):Int)+(v:Int)) ae]<|.e (chain [.o 0 (.int (by first|rfl|omega|(simp only[aO,aK];omega)):PV.le (.e (.v (.int .u64 ((((q-x):Nat):Int)-1)))) (.e (.v (.int .u64 (((q-(x+1)):Nat):Int))))),.o 1 (.int (by first|rfl|omega|(simp only[aO,aK];omega)):PV.le (.e (.v (.int .u64 ((((rest+(x*v))+v):Nat):Int)))) (.e (.v (.int .u64 (((rest+((x+1)*v)):Nat):Int)))))]<|.nil)) ah)
  (fun hx=>by
    have m1:(q-N)*w<=4294967295*4294967295:=cz ae ae;exact eu (chain [tF 12 ((((rest+(N*v)):Nat):Int)<4294967296) ae]<|.nil) ah) ak :fP 1 Tryz.f345 (Li q rest third v w 0) (.exit 0) ⟨32,true,[(0,.e (.v (.int .u64 (((q-N):Nat):Int))))],[]⟩) (chain [.o 0 (.int (by first|rfl|omega|(simp only[aO,aK];omega)):PV.le (.e (.v (.int .u64 (q:Int)))) (.e (.v (.int .u64 (((q-0):Nat):Int))))),.o 1 (.int (by first|rfl|omega|(simp only[aO,aK];omega)):PV.le (.e (.v (.int .u64 (rest:Int)))) (.e (.v (.int .u64 (((rest+(0*v)):Nat):Int)))))]<|.nil)]<|.nil) ah 
theorem abc(L:List Nat)(d:Nat)(hk:ej L)(hl:L.length<=1000000)(ux:0<d)(xT:d<4294967296):dM 338 [(dO L),(.v (.int .u32 (d:Int)))] (.ef [dO (fw (val L/d) L.length),.v (.int .u32 (((val L%d:Nat)):Int))]):=by
 exact tr false Tryz.call338 Tryz.func338 (chain [.a ( ae :0<=((L.length:Int):Int)/\((L.length:Int):Int)<=((L.length:Int):Int)),.a ( ae :((4:Nat):Int)*(L.length:Int)<=281474976710656/\((L.length:Int):Int)<=9223372036854775807),eh ((L.length:Int)-1) ae,.s (Sp.upto (QW L d) 0 L.length ae (fun x hx ic=>by
    have M1:((L.length:Int)-1-(x:Int)).toNat=L.length-1-x:= ae ;have YT:((L.getD ((L.length:Int)-1-(x:Int)).toNat 0:Nat):Int)=(fJ (val L) (L.length-1-x):Int):=by rw[M1,lL hk]
    have qu:=aec (a:=val L) (k:=L.length-1-x) ux xT;have nx:L.length-1-x+1=L.length-x:= ae ;have iq:L.length-(x+1)=L.length-1-x:= ae ;rw[nx]at qu;have Df:=aS (val L/4294967296^(L.length-x)) ux;have Gu:=vw (val L) (L.length-1-x);have tc:(kE 0 (val L/d) (L.length-x) L.length).set ((L.length:Int)-1-(x:Int)).toNat ((val L/4294967296^(L.length-x)%d*4294967296+fJ (val L) (L.length-1-x))/d)=kE 0 (val L/d) (L.length-(x+1)) L.length:=by
     rw[M1,qu.1,<-nx,aa0,iq]
    exact eu (chain [tT 16 (0<=((L.length:Int)-1-(x:Int))) ae,iX (((L.length:Int)-1-(x:Int))) (L.length) ae,.o 26 (.int YT:PV.le (.e (.v (.int .u32 (((L.getD (((L.length:Int)-1-(x:Int))).toNat 0):Nat):Int)))) (.e (.v (.int .u32 (fJ (val L) (L.length-1-x):Int))))),.c (Vt _ _ _ ae ae ae :dM 344 [(.v (.int .u32 (((val L/4294967296^(L.length-x)%d):Nat):Int))),(.v (.int .u32 (fJ (val L) (L.length-1-x):Int))),(.v (.int .u32 (d:Int)))] _),
     iX (((L.length:Int)-1-(x:Int))) (L.length) ae,.a ( ae :(((L.length:Int)-1-(x:Int))).toNat<L.length),eh (((L.length:Int)-1-(x:Int))-1) ae]<|.e (chain [.o 8 (.int (by first|rfl|omega|(simp only[aO,aK];omega)):PV.le (.e (iP (((L.length:Int)-1-(x:Int))-1))) (.e (iP ((L.length:Int)-1-(((x+1):Nat):Int))))),.o 7 (.int (by rw[qu.2,iq]):PV.le (.e (.v (.int .u32 (((((val L/4294967296^(L.length-x)%d)*4294967296+(fJ (val L) (L.length-1-x)))%d):Nat):Int)))) (.e (.v (.int .u32 (((val L/4294967296^(L.length-(x+1))%d):Nat):Int))))),.b 11 (adT rfl (by rw[aaZ];omega) tc:Bx.le (.row false 79 L.length 1 (fun i' j'=>if i'=(((L.length:Int)-1-(x:Int))).toNat/\0<=j'/\j'<0+1 then[(.v (.int .u32 (((((val L/4294967296^(L.length-x)%d)*4294967296+(fJ (val L) (L.length-1-x)))/d):Nat):Int)))].getD (j'-0) .any else(gF (kE 0 (val L/d) (L.length-x) L.length)) i' j')) (.row false 79 L.length 1 (gF (kE 0 (val L/d) (L.length-(x+1)) L.length))))]<|.nil)) ah)
  (fun hx=>by
    exact eu (chain [tF 16 (0<=((L.length:Int)-1-(L.length:Int))) ae]<|.nil) ah) ak :fP 4 Tryz.f338 (QW L d 0) (.exit 0) ⟨34,false,[(7,.e (.v (.int .u32 (((val L/4294967296^(L.length-L.length)%d):Nat):Int)))),(6,.own 11)],[(11,.row false 79 L.length 1 (gF (kE 0 (val L/d) (L.length-L.length) L.length)))]⟩) (chain [.o 8 (.int (by first|rfl|omega|(simp only[aO,aK];omega)):PV.le (.e (iP ((L.length:Int)-1))) (.e (iP ((L.length:Int)-1-((0:Nat):Int))))),.o 7 (.int (by rw[dw,bW (iG hk),Nat.zero_mod];rfl):PV.le (.e (.v (.int .u32 0))) (.e (.v (.int .u32 (((val L/4294967296^(L.length-0)%d):Nat):Int))))),.b 11 (Jd rfl (fun i=>by rw[dw,aaY (aG _),Lp]):Bx.le (.row false 79 L.length 1 (fun _ j_=>[(.v (.int .u32 0))].getD j_ .any)) (.row false 79 L.length 1 (gF (kE 0 (val L/d) (L.length-0) L.length))))]<|.nil)]<|rR (.ef [dO (fw (val L/d) L.length),.v (.int .u32 (((val L%d:Nat)):Int))]) (.ef (.cons (by rw[cW,aa1];exact wV (lJ _ _).symm) (.cons (.of_eq (by rw[cW,bG,agy])) .nil)):E.le (.ef [(.sl false L.length 1 (gF (kE 0 (val L/d) (L.length-L.length) L.length))),(.v (.int .u32 (((val L/4294967296^(L.length-L.length)%d):Nat):Int)))]) (.ef [dO (fw (val L/d) L.length),.v (.int .u32 (((val L%d:Nat)):Int))]))) ah 
open Go.RowKit Fp
def Sn(w:World)(T S:List Nat)(e:Ending)(w':World):Prop:=∃ A c B d,e = .returned (.tuple #[.slice A T.length c,.slice B S.length d])/\Sl w' A c T/\Sl w' B d S/\Ext w w'
theorem Ow.rx{w:World}{base:Nat}{v:Value}{L:List Nat}(h:Ow w base v L)(hl:L≠[]):∃ g cap R,v = .slice (some ⟨g,0,none⟩) L.length cap/\base<=g/\g<w.heap.size/\Rx w g L R/\L.length<=cap/\cap<=maxLen:=by
 rcases h.row.2 with⟨_,h0⟩|⟨g,cap,cur,rfl,hb,hg,lj,kv,jB,AL⟩
 .exact absurd (cE h0) hl
 .refine ⟨g,cap,cur.toList.drop L.length,rfl,hb,(cr.1 hg).1,?_,lj,kv⟩
  unfold Rx;rw[hg];rw[bD]at AL;rw[<-AL,List.take_append_drop]
theorem Rx.sl{w:World}{b cap:Nat}{L:List Nat}{R:List Value}(h:Rx w b L R)(hk:ej L)(hc:L.length<=cap)(hm:cap<=maxLen)(n:Nat):Sl w (some ⟨b,0,none⟩) cap (L.take n):=
 ⟨by rw[bB];omega,by unfold maxLen at hm;omega,hk.take n,(fun h=>by cases h),fun i x hx=>by
  rw[dp]at hx;split at hx
  .obtain ⟨hi,jD⟩:=bA.1 hx
   refine⟨_,_,rfl,h.lt,?_⟩;rw[bK,h.cell hi];simp[aF,hx]
  .cases hx⟩
theorem aaP(x:Nat)(hx:x<4294967296)(w:World):
 Calls Tryz.prog 339 #[.int .u32 x] w fun e w'=>e = .returned (.int .i64 ((32-dU x:Nat):Int))/\w=w':=by
 have iR:dU x<=32:=gS.2 hx;have H:=Lib.hid (fun w=>Od x hx w);go_enter Tryz.func339,Tryz.ntmps339;go_wp2_with fail;refine(H.out _).mono ?_;rintro e w' ⟨rfl,rfl⟩;go_wp2;go_ret;exact⟨jW ae,rfl⟩
theorem Ll(q rest third v w0 N:Nat)(w:World)(hq:q<=4294967295)(hr:rest<9223372036854775808)(ht:third<4294967296)(hv:v<4294967296)(hw:w0<4294967296)(X4:N<=q)(eC:∀ x,x<N->dcond q rest third v w0 x)(hN:¬dcond q rest third v w0 N):
 Calls Tryz.prog 345 #[.int .u64 q,.int .u64 rest,.int .u32 third,.int .u32 v,.int .u32 w0] w fun e w'=>e = .returned (.int .u64 ((q-N:Nat):Int))/\w=w':=by
 have HLO:=Lib.hid eC;have HNN:=Lib.hid hN;clear eC hN;go_enter Tryz.func345,Tryz.ntmps345;go_wp2;go_loop [0,1] (fun a b=>∃ k:Nat,k<=N/\a = .int .u64 ((q-k:Nat):Int)/\b = .int .u64 ((rest+k*v:Nat):Int)) (fun a _=>(intOf a).toNat+0*N)
 case atStart=>exact⟨0,bq _,by go_num,by go_num⟩
 case round=>
  obtain⟨k,hk,rfl,rfl⟩:=hrel;have m1:(q-k)*w0<=4294967295*4294967295:=cz ae ae;have m2:(q-k)*w0=(q-k)*w0:=rfl;by_cases ek:k<N
  .have hc:=HLO.out k ek
   have pe:0<q-k:= ae ;have Nc:rest+(k+1)*v=rest+k*v+v:=by rw[aO,aK];omega
   have HX:=Lib.hid Nc;clear Nc;unfold dcond at hc;have wi:IntKind.u64.wrap (((q-k:Nat):Int)*(w0:Int))=(((q-k)*w0:Nat):Int):=by rw[<-dK];exact lY _ ae 
   generalize rest+k*v=y at *
   generalize hz:(q-k)*w0=z at *
   have AG:q-k=q-(k+1)+1:= ae ;have HQ:=Lib.hid AG;obtain⟨p,hp⟩:∃ p,p=q-k:=⟨_,rfl⟩
   rw[<-hp]at wi pe AG HQ ⊢;have HP:=Lib.hid hp;have vV:p<=4294967295:= ae ;clear hp hz AG;have AK:=y5 y hc.1;have qs:=Bp y third hc.1 ht;have g2:=hc.2;have g1:=hc.1;clear hc;rw[show((y*4294967296:Nat):Int)=(y:Int)*4294967296 by omega]at qs AK;have d1:decide ((y:Int)<4294967296)=true:=aE ae;have d2:decide ((y:Int)*4294967296+(third:Int)<(z:Int))=true:=aE ae;have Dd:IntKind.u64.wrap ((p:Int)-1)=((p-1:Nat):Int):=by rw[IntKind.wrap_u64];omega
   go_wp2;go_round
   case rel=>
    have e1:=HP.out;exact⟨k+1, ae,by go_num,by rw[HX.out];go_num⟩
   case measure=>simp[intOf];omega
  .obtain rfl:k=N:= ae 
   have hn:=HNN.out;clear HNN HLO;unfold dcond at hn;have wi:IntKind.u64.wrap (((q-k:Nat):Int)*(w0:Int))=(((q-k)*w0:Nat):Int):=by rw[<-dK];exact lY _ ae 
   generalize rest+k*v=y at *
   generalize (q-k)*w0=z at *
   obtain⟨p,hp⟩:∃ p,p=q-k:=⟨_,rfl⟩
   rw[<-hp]at wi ⊢;have HP:=Lib.hid hp;clear hp;by_cases g1:y<4294967296
   .have AK:=y5 y g1
    have qs:=Bp y third g1 ht;rw[show((y*4294967296:Nat):Int)=(y:Int)*4294967296 by omega]at qs AK;have d1:decide ((y:Int)<4294967296)=true:=aE ae;have d2:decide ((y:Int)*4294967296+(third:Int)<(z:Int))=false:=aD ae;clear hn;go_wp2;go_ret;exact⟨jW (by rw[<-HP.out]),rfl⟩
   .have d1:decide ((y:Int)<4294967296)=false:=aD ae 
    clear hn wi;go_wp2;go_ret;exact⟨jW (by rw[<-HP.out]),rfl⟩
theorem XI(dX next third v w0:Nat)(hv:2147483648<=v)(nX:v<4294967296)(hn:next<4294967296)(ht:third<4294967296)(hw:w0<4294967296)(htv:dX<=v):
 ∃ g,g<=4294967295/\g<=((dX*4294967296+next)*4294967296+third)/(v*4294967296+w0)/\(g=4294967295\/((dX*4294967296+next)*4294967296+third)/(v*4294967296+w0)<=g) /\
  ∀ w,Calls Tryz.prog 340 #[.int .u32 dX,.int .u32 next,.int .u32 third,.int .u32 v,.int .u32 w0] w fun e w'=>e = .returned (.int .u64 (g:Int))/\∃ m,w'=w.drewN m:=by
 by_cases k1:v<=dX
 .obtain ⟨N,X3,ki,o0,nR,g1,g2⟩:=Lj (X:=dX*4294967296+next) (q:=4294967295) (rest:=(dX-v)*4294967296+next+v) (third:=third) (v:=v) (w:=w0) ae (aG _) hv hw
  refine⟨4294967295-N, ae,g1,g2.elim (fun h=>.inl (by rw[h])) .inr,fun w=>?_⟩;clear g1 g2;have H:=fun w=>Ll 4294967295 ((dX-v)*4294967296+next+v) third v w0 N w ae ae ht nX hw ki o0 nR
  clear o0 nR;obtain rfl:v=dX:= ae ;have pI:(v-v)*4294967296+next+v=next+v:= ae 
  rw[pI,ag7]at H;have HD:=Lib.hid H;clear H;have d1:decide ((v:Int)<=(v:Int))=true:=aE ae;go_enter Tryz.func340,Tryz.ntmps340;go_wp2_with fail;refine(HD.out _).mono ?_;rintro e w' ⟨rfl,rfl⟩;go_wp2;go_ret;exact⟨rfl,0,rfl⟩
 .have d1:=bM (dX*4294967296+next) v
  have d2:=aS (dX*4294967296+next) (show 0<v by omega);have d3:(dX*4294967296+next)/v<4294967296:=by rw[bC ae];omega
  obtain⟨N,X3,ki,o0,nR,g1,g2⟩:=Lj (X:=dX*4294967296+next) (q:=(dX*4294967296+next)/v) (rest:=(dX*4294967296+next)%v) (third:=third) (v:=v) (w:=w0) (by rw[aQ];exact d1) ae hv hw;have g3:=Vq (x:=dX*4294967296+next) (v:=v) (w:=w0) (third:=third) ae ht;refine⟨(dX*4294967296+next)/v-N, ae,g1,.inr ?_,fun w=>?_⟩
  .rcases g2 with rfl|g2
   .exact g3
   .exact g2
  have H:=fun w=>Ll ((dX*4294967296+next)/v) ((dX*4294967296+next)%v) third v w0 N w (Nat.le_of_lt_succ d3) (Nat.lt_trans d2 ae) ht nX hw ki o0 nR
  rw[Int.natCast_ediv,Int.natCast_emod]at H;have HD:=Lib.hid H;clear H g1 g2 g3 ki o0 nR d1 d2 d3;have d1:decide ((v:Int)<=(dX:Int))=false:=aD ae;have AK:=y5 dX ae;have qs:=Bp dX next ae hn
  rw[show((dX*4294967296:Nat):Int)=(dX:Int)*4294967296 by omega]at qs AK;have kn:((dX*4294967296+next:Nat):Int)<18446744073709551616:= ae ;rw[show((dX*4294967296+next:Nat):Int)=(dX:Int)*4294967296+(next:Int)by omega]at qs kn;have nC:((v:Int)==0)=false:= av ;go_enter Tryz.func340,Tryz.ntmps340;go_wp2;go_quiet (exact Calls.quiet_of_same ((HD.out _).mono fun _ _ ⟨h1,h2⟩=>⟨h1,h2.symm⟩));go_wp2;go_ret;exact⟨rfl,_,rfl⟩
theorem Fp.Ext.trans'{w0 w w':World}{g n:Nat}(h:Ext w0 w)(k:oo g (w.drewN n) w')(hg:w0.heap.size<=g):Ext w0 w':=
 (below_drewN h n).trans (k.below.mono hg)
theorem Fp.Ext.only{w0 w w':World}{g:Nat}(h:Ext w0 w)(k:oo g w w')(hg:w0.heap.size<=g):Ext w0 w':=
 Below.trans h (k.below.mono hg)
theorem Sl.LV{w:World}{g cap:Nat}{L:List Nat}(h:Sl w (some ⟨g,0,none⟩) cap L){b:Nat}(hb:g≠b)(i:Nat)(v:Value):Sl (w.setCell ⟨b,i,none⟩ v) (some ⟨g,0,none⟩) cap L:=
 h.lf (fun b' o _ e=>by cases e;exact hb) (oo.BI (oo.refl b w) i v)
theorem Sl.drewN{w:World}{A:Option Addr}{c:Nat}{L:List Nat}(h:Sl w A c L)(n:Nat):Sl (w.drewN n) A c L:=h.below (below_drewN (Below.refl _ _) n)
theorem ab8{P:Program}{f:FuncId}{args:Array Value}{w:World}{n:Nat}{v:Value}
 (h:Calls P f args (w.drewN n) fun e w'=>e = .returned v/\∃ m,w'=(w.drewN n).drewN m):Calls P f args (w.drewN n) fun e w''=>e = .returned v/\∃ m,w''=w.drewN m:=
 h.mono fun _ _ ⟨he,m,hm⟩=>⟨he,n+m,by rw[hm,World.drewN_drewN]⟩
set_option maxRecDepth 100000 in
set_option maxHeartbeats 8000000 in
theorem VB(A B:Option Addr)(c d:Nat)(L M:List Nat)(w:World)(lx ly s:Nat)(s7:lx=(dZ L).length)(Dc:ly=(dZ M).length)(qu:s=32-dU ((dZ M).getD (ly-1) 0))(hs:Sl w A c L)(hr:Sl w B d M)(fO:Tb w)(h1:L.length<=100000)(h2:M.length<=100000)(mA:val M<=val L)(hlen:2<=ly):
 Calls Tryz.prog 319 #[.slice A L.length c,.slice B M.length d] w (Sn w (fw (val L/val M) (lx+1-ly)) (lX (s%32) ((dN (val L%val M*2^s)).drop (s/32)))):=by
 have H1:=pO A c L w hs;have H2:=pO B d M w hr;have Mr:=ky L;unfold ig at Mr;have iD:=ky M;unfold ig at iD;have eL:=kS L;have eM:=kS M;rw[<-eL,<-eM]at mA ⊢;have fX:=hs.trim;have jO:=hr.trim;have Gb:=tO M;have ME:dZ (dZ L)=dZ L:=tO L;have MH:dZ (dZ M)=dZ M:=tO M;have H3:=Bg A B c d (dZ L) (dZ M) w fX jO ae ae;generalize dZ L=X at *
 generalize dZ M=Y at *
 have nu:0<=fN (val X) (val Y):=by unfold fN;split<;>(try split)<;>omega
 generalize fN (val X) (val Y)=cm at *
 have MG:Y.length<=X.length:=by
  apply bh;intro h;have:=Ez fX.ok Gb ( ae :X.length<Y.length);omega
 clear eL eM hs hr mA;rw[<-s7]at MG H1 H3 Mr;rw[<-Dc]at MG H2 H3 iD;have kn:Y.getD (ly-1) 0≠0:=by
  have:=(u9 Y).1 Gb ae;have e:Y.getD (ly-1) 0=Y[Y.length-1]'( ae):=by
   rw[aF,show ly-1=Y.length-1 by omega];simp[show Y.length-1<Y.length by omega]
  rw[e];exact this
 have HN:=abn jO.ok (l:=ly-1) ae rfl kn qu;rw[show ly-1+1=ly by omega]at HN;obtain⟨x,hx⟩:∃ x,x=Y.getD (ly-1) 0:=⟨_,rfl⟩
 have iL:x<4294967296:=by rw[hx];exact jO.ok.getD _
 have H4:=Lib.hid (fun w=>aaP x iL w);rw[<-hx]at qu;rw[<-qu]at H4;obtain⟨ab,ao,rfl,Yc,c1⟩:=jO.at_ (i:=ly-1) ae;have Dt:Y[ly-1]'( ae)=x:=by rw[hx];simp[aF,show ly-1<Y.length by omega]
 rw[Dt]at c1;have Zk:s<32:=HN.1;have HNh:=Lib.hid HN;have H5:=fun w (h:Sl w A c X)=>Pg A c X s w h ae ae 
 have H6:=fun w (h:Sl w (some ⟨ab,ao,none⟩) d Y)=>Pg (some ⟨ab,ao,none⟩) d Y s w h ae ae 
 rw[ME,<-s7,show s/32+lx+1=lx+1 by omega]at H5;rw[MH,<-Dc,show s/32+ly+1=ly+1 by omega]at H6;have H5h:=Lib.hid H5;have H6h:=Lib.hid H6;have HX:=Lib.hid s7;have HY:=Lib.hid Dc;have HS2:=Lib.hid fX;have HR2:=Lib.hid jO;have H1h:=Lib.hid H1;have H2h:=Lib.hid H2;have H3h:=Lib.hid H3;clear H1 H2 H3 H5 H6 ME MH HN s7 Dc hx Dt qu kn fX jO Gb;have wi:(ly:Int)-1=((ly-1:Nat):Int):= ae ;have d0:decide (cm<0)=false:=aD ae;have d2:decide ((lx:Int)+1<=(lx:Int))=false:=aD ae;have kX:=A8 (lx+1-ly) ae;rw[show((lx+1-ly:Nat):Int)=(lx:Int)+1-(ly:Int)by omega]at kX;have d1:((ly:Int)==1)=false:= av 
 go_enter Tryz.func319,Tryz.ntmps319;go_wp2_with fail;refine H1h.out.mono ?_;rintro e w' ⟨rfl,rfl⟩;go_wp2_with fail;refine H2h.out.mono ?_;rintro e w' ⟨rfl,rfl⟩;go_wp2_with fail;refine H3h.out.mono ?_;rintro e w1 ⟨rfl,eB⟩;have c2:=c1;rw[<-(eB.cell (p:=⟨ab,ao+(ly-1),none⟩) Yc)]at c2;go_wp2_with fail;refine(H4.out _).mono ?_;rintro e w2 ⟨rfl,rfl⟩;go_wp2_with fail;refine(H5h.out _ (HS2.out.below eB)).mono ?_;rintro e w2 ⟨T,v1,he,xO,Am,gy,iR⟩;obtain⟨g,cap,R,we,MX,MY,Mw,xS,Yr⟩:=gy.rx (by intro h;rw[h]at Am;simp at Am);have MA:=Lib.hid gy.ok;rw[Am]at we xS;subst we;subst he;clear gy;have HTv:=Lib.hid xO;have HTl:=Lib.hid Am;clear xO Am;go_wp2_with fail;refine(H6h.out _ ((HR2.out.below eB).below iR)).mono ?_;rintro e w3 ⟨S,v2,he,Mz,vG,gy,mL⟩;have C0:=Mw.same (mL.block g MY);obtain⟨g',cap',R',nX,YG,agi,_,agh,_⟩:=gy.rx (by intro h;rw[h]at vG;simp at vG);obtain⟨_,_,e2,Gf⟩:=gy.sl;rw[nX]at e2;cases e2;have C7:g'≠g:= ae ;have H7:=pO (some ⟨g',0,none⟩) cap' S w3 Gf;have hV:dZ S=dN (val Y*2^s):=by rw[mu gy.ok,Mz]
 have sT:=Gf.trim;rw[hV]at H7 sT;rw[HNh.out.2.1,vG]at H7;rw[vG]at nX;have Ym:Ext w w3:=(eB.trans iR).trans mL;subst nX;subst he;have H7h:=Lib.hid H7;clear gy Gf hV Mz vG H7 Mw iR mL;go_wp2_with fail;refine H7h.out.mono ?_;rintro e w4 ⟨rfl,rfl⟩;go_wp2;go_loop [9] (fun u=>u = .slice (some ⟨g,0,none⟩) (lx+1) cap) (fun _=>0)
 case atStart=>rfl
 case round=>
  subst hrel;go_wp2;have rY:=Rw.made w3 (lx+1-ly);have Dg:=HNh.out.2.1;have o0:=HNh.out.2.2.1;have nR:=HNh.out.2.2.2.1;have MC:=gr (val Y*2^s);have Gl:=eV (val Y*2^s);rw[<-Gl]at nR;generalize dN (val Y*2^s)=V at *
  have rX:=nM.start (A:=val X) (s:=s) (V:=V) (O:=T) MA.out HTv.out (la:=lx) (by rw[HX.out];exact iG HS2.out.ok) HTl.out Zk ae ae (by rw[Dg];exact nR);have My:=sT.alloc (.cells (jT (List.replicate (lx+1-ly) 0)).toArray 79);have Mx:Rx (w3.alloc (.cells (jT (List.replicate (lx+1-ly) 0)).toArray 79)) g T R:=C0.same ((Ext.alloc w3 _).block g (by have:=C0.lt;omega));rw[Dg]at rX;have HD0:=Lib.hid rX;have HR0:=Lib.hid rY;have HRx:=Lib.hid Mx;have HSV:=Lib.hid My;have HE0:=Lib.hid (Ym.trans (Ext.alloc w3 (.cells (jT (List.replicate (lx+1-ly) 0)).toArray 79)));have HnV:=Lib.hid Dg;have HVok:=Lib.hid MC;have HVv:=Lib.hid Gl;have HN1:=Lib.hid o0;have hgq:g<w3.heap.size:=C0.lt;have MZ:w.heap.size<=g:=aI eB.size MX;clear rX rY Mx My sT C0 Dg MC Gl o0 nR HTv HTl MA H1h H2h H3h H4 H5h H6h H7h c1 c2 d2 kX eB MX YG MY HNh HS2 HR2;go_loopw [13] (fun j wr=>∃ (k:Nat) (O Q:List Nat),k<=lx+1-ly/\j = .int .i64 ((k:Int)-1)/\nM (val X*2^s) V k (lx+1) O Q/\Rx wr g O R/\Rw wr w3.heap.size Q/\Sl wr (some ⟨g',0,none⟩) cap' V/\Ext w wr) (fun j _=>(intOf j+1).toNat)
  case atStart=>
   exact⟨lx+1-ly,T,_,aG _,by go_num,HD0.out,HRx.out,HR0.out,HSV.out,HE0.out⟩
  case round=>
   clear HD0 HRx HR0 HSV HE0;obtain⟨k,O,Q,hk,rfl,hD,xN,Ge,sT,MN⟩:=hrel;have HE:=Lib.hid MN;have HSV:=Lib.hid sT;have HRQ:=Lib.hid Ge;have HRO:=Lib.hid xN;have HD:=Lib.hid hD;clear hD MN;rcases k with _|t
   .have hO:=HD.out.Oe
    have No:=HRO.out.sl HD.out.tE (cap:=cap) ae Yr ly;have HZ:=Iq (some ⟨g,0,none⟩) cap (O.take ly) s wr No (by rw[bB];omega) ae;have e1:(O.take ly).length=ly:=by rw[bB];omega
    rw[e1]at HZ;have HZh:=Lib.hid HZ;have HQs:=Lib.hid (HRQ.out.sl HD.out.wJ (by rw[HD.out.AY];omega));have qZ:0<val V:=by
     have:=HD.out.lt;rcases dt (val V)with h|h
     .rw [h,bS]at this;omega
     .exact h
    have MF:0<val Y:=by
     rw[HVv.out]at qZ;exact Nat.pos_of_mul_pos_right qZ
    have Gx:=Vy (a:=val X) (b:=val Y) (s:=s) (q:=val Q) (r:=val O) MF (by rw[<-HVv.out];exact HD.out.eq) (by rw[<-HVv.out];have:=HD.out.lt;rw[bG,bD]at this;exact this);have uA:val (O.take ly)=val O:=by
     rw[afK HD.out.tE,bn];have:=HD.out.lt;rw[bG,bD]at this;refine Nat.lt_trans this ?_;have h:=iG HVok.out;rw[HnV.out]at h;exact h
    have Ms:dZ (O.take ly)=dN (val X%val Y*2^s):=by rw[mu (HD.out.tE.take ly),uA,Gx.2]
    rw[Ms]at HZh;have CY:=HD.out.AY;rw[HnV.out]at CY;have Mu:fw (val X/val Y) (lx+1-ly)=Q:=CA HD.out.wJ CY Gx.1;have HQd:=Lib.hid Mu;generalize lX (s%32) ((dN (val X%val Y*2^s)).drop (s/32))=Z at *
    have HQl:=Lib.hid CY;clear Gx uA Ms Mu No HZ e1 CY hO qZ MF sT xN Ge;go_wp2_with fail;refine HZh.out.mono ?_;rintro e w5 ⟨AZ,cZ,rfl,Ya,MI⟩;go_wp2;go_ret2;have hq:=HQs.out.below MI;rw[HQl.out]at hq;exact⟨_,_,_,_,by rw[lJ];rfl,by rw[HQd.out];exact hq,Ya,HE.out.trans MI⟩
   .have hO:=HD.out.Oe
    have c4:=xN.cell (i:=t+ly) ae;have c5:=xN.cell (i:=t+ly-1) ae;have c6:=xN.cell (i:=t+ly-2) ae;obtain⟨_,_,e1,_,c7⟩:=sT.at_ (i:=ly-1) (by rw[HnV.out];omega);obtain⟨_,_,e2,_,c8⟩:=sT.at_ (i:=ly-2) (by rw[HnV.out];omega);cases e1;cases e2;rw[bK]at c7 c8;have v7:V[ly-1]'(by rw[HnV.out];omega)=V.getD (ly-1) 0:=by simp[aF,HnV.out,show ly-1<ly by omega]
    have v8:V[ly-2]'(by rw[HnV.out];omega)=V.getD (ly-2) 0:=by simp[aF,HnV.out,show ly-2<ly by omega]
    rw[v7]at c7;rw[v8]at c8;clear v7 v8;have iu:=HD.out.tE;have o4:=iu.getD (t+ly);have o5:=iu.getD (t+ly-1);have o6:=iu.getD (t+ly-2);have o7:=HVok.out.getD (ly-1);have o8:=HVok.out.getD (ly-2);have hG:=HD.out.XH HVok.out (by rw[HnV.out];omega) (by rw[HnV.out];exact HN1.out);rw[HnV.out]at hG;obtain⟨gd,g1,g2,g3,g4⟩:=XI (O.getD (t+ly) 0) (O.getD (t+ly-1) 0) (O.getD (t+ly-2) 0) (V.getD (ly-1) 0) (V.getD (ly-2) 0) HN1.out o7 o5 o6 o8 hG.1;have HGq:=Lib.hid (hG.2 gd g1 g2 g3);have HG:=Lib.hid g4;clear hG g2 g3 g4 iu sT xN Ge;generalize O.getD (t+ly) 0=x4 at *
    generalize O.getD (t+ly-1) 0=x5 at *
    generalize O.getD (t+ly-2) 0=x6 at *
    have HV1:=Lib.hid (rfl:V.getD (ly-1) 0=V.getD (ly-1) 0);generalize Zw:V.getD (ly-1) 0=x7 at *
    generalize V.getD (ly-2) 0=x8 at *
    clear Zw HV1;have i1:(((t+1:Nat):Int)-1)=(t:Int):= ae ;have i2:((t:Int)+(ly:Int)).toNat=t+ly:= ae ;have i3:((t:Int)+(ly:Int)-1).toNat=t+ly-1:= ae ;have i4:((t:Int)+(ly:Int)-2).toNat=t+ly-2:= ae ;have i6:((ly:Int)-2)=((ly-2:Nat):Int):= ae ;have p1:IntKind.i64.wrap ((t:Int)+(ly:Int))=(t:Int)+(ly:Int):=i64_in _ ae ae;have p2:IntKind.i64.wrap ((t:Int)+(ly:Int)-1)=(t:Int)+(ly:Int)-1:=i64_in _ ae ae;have p3:IntKind.i64.wrap ((t:Int)+(ly:Int)-2)=(t:Int)+(ly:Int)-2:=i64_in _ ae ae;have p4:IntKind.i64.wrap ((ly-1:Nat):Int)=((ly-1:Nat):Int):=i64_in _ ae ae;have p5:IntKind.i64.wrap ((ly-2:Nat):Int)=((ly-2:Nat):Int):=i64_in _ ae ae;have j6:((ly-1:Nat):Int)<(ly:Int):= ae ;have j7:((ly-2:Nat):Int)<(ly:Int):= ae ;have j0:0<=(t:Int)+(ly:Int):= ae ;have j1:0<=(t:Int)+(ly:Int)-1:= ae ;have j2:0<=(t:Int)+(ly:Int)-2:= ae ;have j3:(t:Int)+(ly:Int)<(lx:Int)+1:= ae ;have j4:(t:Int)+(ly:Int)-1<(lx:Int)+1:= ae ;have j5:(t:Int)+(ly:Int)-2<(lx:Int)+1:= ae 
    rw[i1];clear i1;go_wp2;go_quiet (exact ab8 (HG.out _));go_wp2_with fail;have HTk:=afb g t (cap-t) cap' gd O V R (some ⟨g',0,none⟩) (wr.drewN nq) (HRO.out.same rfl) (HSV.out.drewN nq) (fun b' o _ e=>by cases e;exact C7) HD.out.tE (by rw[HnV.out];omega) g1 ae;rw[HnV.out,show ly+1=t+ly+1-t by omega]at HTk;refine HTk.mono ?_;rintro e w5 ⟨O',δ,rfl,Mv,mB,yd,hδ,gM,Dp,yh⟩;have HRO':=Lib.hid Mv;have HON:=Lib.hid yh;have HSV5:=Lib.hid ((HSV.out.drewN nq).lf (fun b' o _ e=>by cases e;exact C7) yh);have HRQ5:=Lib.hid (show Rw w5 w3.heap.size Q from(yh.lf _ ae).trans HRQ.out);have HE5:=Lib.hid (show Ext w w5 from Fp.Ext.trans' HE.out yh MZ);have X6:=pw t;have MD:0<val V:=by
     have:=HD.out.lt;rcases dt (val V)with h|h
     .rw [h,bS]at this;omega
     .exact h
    have wg:IntKind.u32.wrap (gd:Int)=(gd:Int):=by rw[IntKind.wrap_u32];omega
    have htm:(t:Int)<(lx:Int)+1-(ly:Int):= ae ;have Nt:t<Q.length:=by rw[HD.out.AY,HnV.out];omega
    have Gc:=aM Nt;have cq:=HRQ5.out.cell Gc;have fq:=HRQ5.out.frozen t;generalize Q[t]=q0 at *
    have HQG:=Lib.hid Gc;clear Gc Nt c4 c5 c6 c7 c8 HRO HRQ HSV HE HTk Mv yh;rcases Nat.lt_or_ge δ 1 with NJ|ZC
    .obtain rfl:δ=0:= ae 
     have Mq:=Ln X6 MD (by rw[gM,bQ,bd]) HGq.out.1;have HDS:=Lib.hid (HD.out.step (x:=gd) (by rw[HnV.out];omega) (by rw[mB,hO]) yd ae (by rw[gM,bQ,bd]) Mq.2);clear Mq gM Dp yd mB HD HGq;have HRQ6:=Lib.hid (fun x:Nat=>HRQ5.out.set t x);have HRO6:=Lib.hid (fun v:Value=>HRO'.out.same (w':=w5.setCell ⟨w3.heap.size,t,none⟩ v) (by simp only[World.setCell,agD];rw[aB ae]));have HSV6:=Lib.hid (fun v:Value=>HSV5.out.LV (b:=w3.heap.size) ae t v);have HE6:=Lib.hid (fun v:Value=>HE5.out.setCell (p:=⟨w3.heap.size,t,none⟩) (by show w.heap.size<=w3.heap.size;omega) v);go_wp2;go_roundw
     case rel=>exact⟨t,O',Q.set t gd, ae,by go_num,HDS.out,HRO6.out _,HRQ6.out _,HSV6.out _,HE6.out _⟩
     case measure=>simp[intOf]
    .obtain rfl:δ=1:= ae 
     have pd:=HD.out.over (x:=gd) HVok.out yd (by rw[HnV.out];exact gM) (by rw[HnV.out];exact Dp);have vK:=pd.2;have HB:=Lib.hid (fun(κ:Nat) (O2:List Nat)=>HD.out.back (x:=gd) (κ:=κ) (O2:=O2) HVok.out (by rw[HnV.out];omega) yd (by rw[HnV.out];exact gM) (by rw[HnV.out];exact Dp) g1 HGq.out.2 MD);have HP0:=Lib.hid (rJ.start yd t V);have M6:O'.length=lx+1:=by rw[mB,hO]
     have HL':=Lib.hid M6;have hxm:IntKind.u64.wrap ((gd:Int)-1)=((gd-1:Nat):Int):=by rw[IntKind.wrap_u64];omega
     have wg1:IntKind.u32.wrap ((gd-1:Nat):Int)=((gd-1:Nat):Int):=by rw[IntKind.wrap_u32];omega
     clear pd gM Dp yd mB M6 HD HGq wg cq fq;go_wp2;go_loopw [15,125] (fun cy i wr2=>∃ (k c':Nat) (O2:List Nat),k<=ly/\i = .int .i64 k/\cy = .int .u32 c'/\rJ O' t V k O2 c'/\Rx wr2 g O2 R/\oo g w5 wr2) (fun _ i _=>ly-(intOf i).toNat)
     case atStart=>exact⟨0,0,O',bq _,rfl,rfl,HP0.out,HRO'.out,oo.refl _ _⟩
     case round=>
      clear HP0 HRO';obtain⟨k,c',O2,nU,rfl,rfl,hP,ur,AA⟩:=hrel;have HP:=Lib.hid hP;have C5:=hP.Fi;have jC:O2.length=lx+1:=by rw[hP.len];exact HL'.out
      have HL2:=Lib.hid jC;clear hP;by_cases ek:k<ly
      .have s6:k<V.length:=by rw[HnV.out];exact ek
       obtain⟨_,_,e1,_,c1⟩:=(HSV5.out.lf (fun b' o _ e=>by cases e;exact C7) AA).at_ s6;cases e1;rw[bK]at c1;have v7:V[k]=V.getD k 0:=by simp[aF,s6]
       rw[v7]at c1;have lh:t+k<O2.length:= ae ;have c2:=ur.cell lh;have c3:=ur.frozen (t+k);have lp:V.getD k 0<4294967296:=HVok.out.getD k;have AM:O2.getD (t+k) 0<4294967296:=HP.out.ok.getD _;have HST:=Lib.hid (HP.out.step HVok.out s6 (by rw[HL'.out,HnV.out];omega));have HRS:=Lib.hid (fun x:Nat=>ur.set lh x);have HOS:=Lib.hid (fun(v:Value)=>AA.BI (t+k) v);have HA:=Lib.hid (fun w=>zz (O2.getD (t+k) 0) (V.getD k 0) c' w AM lp C5);clear ur AA HP v7 s6 lh jC HL2;generalize O2.getD (t+k) 0=u at *
       generalize V.getD k 0=y at *
       have sY:((t:Int)+(k:Int)).toNat=t+k:= ae ;have xW:0<=(t:Int)+(k:Int):= ae ;have YK:(t:Int)+(k:Int)<(lx:Int)+1:= ae ;go_wp2_with fail;refine(HA.out _).mono ?_;rintro e w6 ⟨rfl,rfl⟩;go_wp2;go_roundw
       case rel=>
        exact⟨k+1,(u+y+c')/4294967296,O2.set (t+k) ((u+y+c')%4294967296), ae,by go_num,rfl,HST.out,HRS.out _,HOS.out _⟩
       case measure=>simp[intOf];omega
      .obtain rfl:k=ly:= ae 
       have CX:=(show rJ O' t V V.length O2 c' by rw[HnV.out];exact HP.out).last (by rw[HL'.out,HnV.out];omega);rw[HnV.out]at CX;obtain⟨q1,q2,⟨κ,q3,q4⟩,q5⟩:=CX;have lh:t+k<O2.length:= ae ;have c2:=ur.cell lh;have c3:=ur.frozen (t+k);have AM:O2.getD (t+k) 0<4294967296:=HP.out.ok.getD _;have HDS:=Lib.hid (HB.out κ _ (by rw[q1];exact HL'.out) q2 q3 (by rw[HnV.out];exact q4) (by rw[HnV.out];exact q5));have HRS:=Lib.hid (fun x:Nat=>ur.set lh x);have HOS:=Lib.hid (fun(v:Value)=>AA.BI (t+k) v);have CZ:∀ v:Value,Rw (wr.setCell ⟨g,t+k,none⟩ v) w3.heap.size Q:=fun v=>((HOS.out v).lf _ ae).trans HRQ5.out
       have hcq:∀ v:Value,(wr.setCell ⟨g,t+k,none⟩ v).cell? ⟨w3.heap.size,t,none⟩=some (.int .u32 (q0:Int)):=fun v=>(CZ v).cell HQG.out
       have hfq:∀ v:Value,(wr.setCell ⟨g,t+k,none⟩ v).frozen? ⟨w3.heap.size,t,none⟩=false:=fun v=>(CZ v).frozen t
       have HRQ8:=Lib.hid (fun(v:Value) (x:Nat)=>(CZ v).set t x);have HRO8:=Lib.hid (fun(x:Nat) (v:Value)=>(HRS.out x).same (w':=(wr.setCell ⟨g,t+k,none⟩ (.int .u32 (x:Int))).setCell ⟨w3.heap.size,t,none⟩ v) (by simp only[World.setCell,agD];rw[aB ae]));have HSV8:=Lib.hid (fun(v v2:Value)=>(HSV5.out.lf (fun b' o _ e=>by cases e;exact C7) (HOS.out v)).LV (b:=w3.heap.size) ae t v2);have HE8:=Lib.hid (fun(v v2:Value)=>(Fp.Ext.only HE5.out (HOS.out v) MZ).setCell (p:=⟨w3.heap.size,t,none⟩) (by show w.heap.size<=w3.heap.size;omega) v2);clear CZ HRS HOS ur AA HP q1 q2 q3 q4 q5 lh jC HL2;generalize O2.getD (t+k) 0=u at *
       have sY:((t:Int)+(k:Int)).toNat=t+k:= ae ;have xW:0<=(t:Int)+(k:Int):= ae ;have YK:(t:Int)+(k:Int)<(lx:Int)+1:= ae ;have hi4:IntKind.u32.wrap ((u:Int)+(c':Int))=(((u+c')%4294967296:Nat):Int):=by rw[IntKind.wrap_u32];omega
       generalize (u+c')%4294967296=uu at *
       go_wp2;go_roundw
       case rel=>exact⟨t,O2.set (t+k) uu,Q.set t (gd-1), ae,by go_num,HDS.out,HRO8.out _ _,HRQ8.out _ _,HSV8.out _ _,HE8.out _ _⟩
       case measure=>simp[intOf]
open Go.RowKit Fp Pu
theorem aet:E.le (.v (.slice none 0 0)) (dO []):=fun bs br w v h=>by
 obtain rfl:=eo.gn h;exact .sl false 0 1 _ none 0 (fun _ _=>undef) (aG _) ag (fun _=>rfl) (fun i j hi=>absurd hi (aV i)) (fun i j hi=>absurd hi (aV i)) (fun i j hi=>absurd hi (aV i)) (fun i j hi=>absurd hi (aV i))
theorem aeu{x:Nat}:E.le (.sl false 1 1 fun i_ j_=>[(.v (.int .u32 (x:Int)))].getD (i_*1+j_) (.v (.bool false))) (dO [x]):=.sl fun i j hi hj=>by
 obtain rfl:i=0:= ae ;obtain rfl:j=0:= ae ;exact⟨.refl _,rfl⟩
theorem KZ(L:List Nat)(hk:ej L):dM 128 [dO L] (dO L):=Br hk Tryz.call128 (fun A c w h _=>Fs A c L w h) fun A c B w e w' h hB ⟨h1,h2⟩=>by
 subst h2;exact⟨_,h1,Below.refl _ _,u5 hB (Below.refl _ _) ⟨aG _,h.len,h.ok,fun hn=>by have:=h.none_ hn;have:=h.cap;omega,h.cell⟩⟩
theorem K0(L:List Nat)(hk:ej L)(hl:L.length<=1000000):dM 129 [dO L] (dO L):=Br hk Tryz.call129 (fun A c w h _=>Ft A c L w h ae) fun A c B w e w' h hB r=>rl B w e w' hB r
theorem aa5(L M:List Nat)(hL:ej L)(hM:ej M)(h1:L.length<=100000)(h2:M.length<=100000)(hc:fN (val (dZ L)) (val (dZ M))<0):dM 319 [(dO L),(dO M)] (.ef [dO [],dO (dZ L)]):=by
 have ta:=ky L;have tb:=ky M;unfold ig at ta tb;exact tr true Tryz.call319 Tryz.func319 (chain [.c (pj _ af :dM 167 [(dO L)] _),.c (pj _ af :dM 167 [(dO M)] _),.c (Ij _ _ (ej.dZ af) (ej.dZ af) ae ae :dM 131 [(dO (dZ L)),(dO (dZ M))] _),tB 25 (aE hc),.c (K0 _ (ej.dZ af) ae :dM 129 [(dO (dZ L))] _)]<|rR (.ef [dO [],dO (dZ L)]) (.ef (.cons aet (.cons (.refl _) .nil)):E.le (.ef [(.v (.slice none 0 0)),(dO (dZ L))]) (.ef [dO [],dO (dZ L)]))) ah 
theorem aa6(L M:List Nat)(hL:ej L)(hM:ej M)(h1:L.length<=100000)(h2:M.length<=100000)(hc:¬fN (val (dZ L)) (val (dZ M))<0)(hl:(dZ M).length=1)(ux:0<(dZ M).getD 0 0)(xT:(dZ M).getD 0 0<4294967296):dM 319 [(dO L),(dO M)] (.ef [dO (fw (val (dZ L)/(dZ M).getD 0 0) (dZ L).length),dO [val (dZ L)%(dZ M).getD 0 0]]):=by
 have ta:=ky L;have tb:=ky M;unfold ig at ta tb;exact tr true Tryz.call319 Tryz.func319 (chain [.c (pj _ af :dM 167 [(dO L)] _),.c (pj _ af :dM 167 [(dO M)] _),.c (Ij _ _ (ej.dZ af) (ej.dZ af) ae ae :dM 131 [(dO (dZ L)),(dO (dZ M))] _),tB 25 (aD hc),tB 30 (by rw[hl];rfl:(((dZ M).length:Int)==1)=true),iX (0) ((dZ M).length) ae,.c (abc (dZ L) ((dZ M).getD 0 0) (ej.dZ af) ae ux xT)]<|rR (.ef [dO (fw (val (dZ L)/(dZ M).getD 0 0) (dZ L).length),dO [val (dZ L)%(dZ M).getD 0 0]]) (.ef (.cons (.refl _) (.cons aeu .nil)):E.le (.ef [(dO (fw (val (dZ L)/((dZ M).getD 0 0)) (dZ L).length)),(.sl false 1 1 fun i_ j_=>[(.v (.int .u32 (((val (dZ L)%((dZ M).getD 0 0)):Nat):Int)))].getD (i_*1+j_) (.v (.bool false)))]) (.ef [dO (fw (val (dZ L)/(dZ M).getD 0 0) (dZ L).length),dO [val (dZ L)%(dZ M).getD 0 0]]))) ah 
theorem Ik(L M:List Nat)(hL:ej L)(hM:ej M)(h1:L.length<=100000)(h2:M.length<=100000)(h0:val M≠0):∃ T S:List Nat,dM 319 [dO L,dO M] (.ef [dO T,dO S])/\val T=val L/val M/\val S=val L%val M/\ej T/\ej S/\T.length<=L.length/\S.length<=L.length+1:=by
 have ta:=ky L;have tb:=ky M;unfold ig at ta tb;have e1:=kS L;have e2:=kS M;by_cases hc:fN (val (dZ L)) (val (dZ M))<0
 .refine ⟨[],dZ L,aa5 L M hL hM h1 h2 hc,?_,?_,ej.nil,hL.dZ,bq _, ae⟩
  .rw [e1,e2]at hc
   have:val L<val M:=by unfold fN at hc;split at hc<;>(try split at hc)<;>omega
   rw[bW this];rfl
  .rw [e1,e2]at hc
   have:val L<val M:=by unfold fN at hc;split at hc<;>(try split at hc)<;>omega
   rw[bn this,e1]
 .have mA:val M<=val L:=by rw[e1,e2]at hc;unfold fN at hc;split at hc<;>(try split at hc)<;>omega
  have fK:dZ M≠[]:=by intro h;rw[h]at e2;exact h0 e2.symm
  have hlen:(dZ M).length≠0:=by simpa using fK
  by_cases hl:(dZ M).length=1
  .obtain ⟨x,hx⟩:=List.length_eq_one_iff.1 hl
   have iu:=hM.dZ;rw[hx]at iu;have NC:x=val M:=by rw[<-e2,hx];simp[val]
   have hg:(dZ M).getD 0 0=x:=by rw[hx];rfl
   have:=aa6 L M hL hM h1 h2 hc hl (by rw[hg];omega) (by rw[hg];exact iu.head);rw[hg]at this;refine⟨_,_,this,?_,?_,qe _ _,ej.cons (Nat.lt_trans (aS _ ae) iu.head) ej.nil,by rw[lJ];exact ta, aj⟩
   .rw [tR,bn,e1,NC]
    exact bE (bj _ _) (iG hL.dZ)
   .simp [val,e1,NC]
  .refine ⟨_,_,uQ hL hM Tryz.call319 (fun A c B d w h k hT=>VB A B c d L M w _ _ _ rfl rfl rfl h k hT h1 h2 mA ae) (fun B w e w' hB ⟨A1,c1,B1,d1,q1,q2,q3,q4⟩=>⟨_,q1,q4,fM.ef (.cons (u5 hB q4 q2) (.cons (u5 hB q4 q3) (.nil _ _ _)))⟩),?_,?_,qe _ _,uO _ _,?_,?_⟩
   .rw [tR,bn]
    rw[bC ae];have g1:=iG hL.dZ;rw[e1]at g1;refine a7 g1 ?_;obtain⟨l,mB⟩:∃ l,(dZ M).length=l+1:=⟨(dZ M).length-1, ae⟩
    have g2:4294967296^l<=val M:=by
     apply bh;intro q;have q2:(dN (val M)).length<=l:=qA ae;rw[<-mu hM]at q2;omega
    have g3:=bN (4294967296^((dZ L).length+1-(dZ M).length)) g2;rw[<-aH]at g3;refine aI ?_ g3;exact aR ag ae 
   .rw [EB (gr _),eV,cU _ (aJ ag)]
   .rw [lJ];omega
   .rw [Ei,dH]
    have hb:32-dU ((dZ M).getD ((dZ M).length-1) 0)<33:= ae ;have:=aaC (gr (val L%val M)) (32-dU ((dZ M).getD ((dZ M).length-1) 0));rw[eV]at this;have h3:(dN (val L%val M)).length<=(dN (val L)).length:=il (dA _ _);rw[<-mu hL]at h3;omega
theorem tw(m n:Nat)(h1:(dN m).length<=256)(h2:(dN n).length<=256)(h0:n≠0):dM 296 [dO (dN m),dO (dN n)] (.ef [dO (dN (m/n)),dO (dN (m%n)),iP 0]):=by
 obtain⟨T,S,Ao,hT,hS,oT,oS,_,_⟩:=Ik (dN m) (dN n) (gr m) (gr n) ae ae (by rw[eV];exact h0);rw[eV,eV]at hT hS;have hz:dZ (dN n)=dN n:=qK n;have hl:=mo h0;have jC:(((dZ (dN n)).length:Int)==0)=false:=by rw[hz];exact ko hl
 exact tr true Tryz.call296 Tryz.func296 (chain [.c (O7 (dN m) (dN n) af af),.c (pj _ (gr _):dM 167 [(dO (dN n))] _),tB 18 (jC:(((dZ (dN n)).length:Int)==0)=false),.c (Ao:dM 319 [(dO (dN m)),(dO (dN n))] _),.c (pj _ af :dM 167 [(dO T)] _),.c (KZ _ (ej.dZ af):dM 128 [(dO (dZ T))] _),.c (pj _ af :dM 167 [(dO S)] _),.c (KZ _ (ej.dZ af):dM 128 [(dO (dZ S))] _)]<|rQ (.ef [(dO (dZ T)),(dO (dZ S)),(iP 0)]) (.ef [dO (dN (m/n)),dO (dN (m%n)),iP 0]) (by rw[mu oT,mu oS,hT,hS])) ah 
open Go.RowKit Fp Pu
theorem Qk(a b:Dy)(p:Nat)(up:Bool)(ha:a.Valid)(hb:b.Valid)(b0:b.m≠0)(dW:8<=p)(dR:p<=512):dM 275 [(dP a),(dP b),(iP p),(bP up)] (.ef [dP (kz a b p up),iP (mh a b p up)]):=by
 by_cases a0:a.m=0
 .have e1:kz a b p up=eW/\mh a b p up=0:=by unfold kz mh;rw[aC a0,aC a0];exact⟨rfl,rfl⟩
  exact tr true Tryz.call275 Tryz.func275 (chain [.o 18 (.e (qW _ _):PV.le (.e (.sl true 2 3 fun i_ j_=>(fD a++fD b).getD (i_*3+j_) (.v (.bool false)))) (.e (jl [a,b]))),.c (ru _ _ _ af af ae ae :dM 177 [(iP p),(jl [a,b])] _),tB 21 ( ag :((0:Int) != 0)=false),tB 28 (ko (mo b0):(((dN b.m).length:Int)==0)=false),tB 34 (pk (oM.2 a0):(((dN a.m).length:Int)==0)=true),.o 35 (.e rG:PV.le (.e (.agg [(bP false),(.v (.slice none 0 0)),(iP 0)])) (.e (dP eW)))]<|rQ (.ef [(dP eW),(iP 0)]) (.ef [dP (kz a b p up),iP (mh a b p up)]) (by rw[e1.1,e1.2])) ah 
 .have va:=ha.dN
  have vb:=hb.dN;have xa:=ha.exp;have xb:=hb.exp;have ra:=ha.range.resolve_left a0;have rb:=hb.range.resolve_left b0;have pa:=jK a0;have pb:=jK b0;have hK:gw a b p 3=p+3+dU b.m-dU a.m:=rfl;have bs:=mg a0 (gw a b p 3);have z1:(dN (a.m*2^gw a b p 3)).length<=256:=jF ae;have hq:=Fy a0 b0 p 3 ag;have q0:a.m*2^gw a b p 3/b.m≠0:=by intro q;rw[q,nP]at hq;omega
  have z2:(dN (a.m*2^gw a b p 3/b.m)).length<=256:=jF (by have:=qd (bj (a.m*2^gw a b p 3) b.m);omega);have z3:(dN (a.m*2^gw a b p 3%b.m)).length<=256:=jF (by have:=qd (cJ (aS (a.m*2^gw a b p 3) (cY b0)));omega);have eZ:decide (0<(dU (a.m*2^gw a b p 3%b.m):Int))=decide (a.m*2^gw a b p 3%b.m≠0):=by
   by_cases h:a.m*2^gw a b p 3%b.m=0
   .rw [h,nP];rfl
   .have:=jK h
    rw[aE h,aE ae]
  obtain⟨d1,d2⟩:=Vz a0 b0 p up;have h0:a.m*2^gw a b p 3/b.m≠0\/a.m*2^gw a b p 3/b.m=0/\a.e-(gw a b p 3:Int)-b.e=0/\decide (0<(dU (a.m*2^gw a b p 3%b.m):Int))=false:=.inl q0;have hm:decide (0<(dU (a.m*2^gw a b p 3%b.m):Int))=true->p<dU (a.m*2^gw a b p 3/b.m):=fun _=>hq
  exact tr true Tryz.call275 Tryz.func275 (chain [.o 18 (.e (qW _ _):PV.le (.e (.sl true 2 3 fun i_ j_=>(fD a++fD b).getD (i_*3+j_) (.v (.bool false)))) (.e (jl [a,b]))),.c (ru _ _ _ af af ae ae :dM 177 [(iP p),(jl [a,b])] _),tB 21 ( ag :((0:Int) != 0)=false),tB 28 (ko (mo b0):(((dN b.m).length:Int)==0)=false),tB 34 (ko (mo a0):(((dN a.m).length:Int)==0)=false),eh ((p:Int)+3) ae,.c (CC _ af :dM 295 [(dP b)] _),eh (((p:Int)+3)+(dU (Dy.m b):Int)) ae,.c (CC _ af :dM 295 [(dP a)] _),
   eh ((((p:Int)+3)+(dU (Dy.m b):Int))-(dU (Dy.m a):Int)) ae,.o 44 (.int au :PV.le (.e (iP (if((((p:Int)+3)+(dU (Dy.m b):Int))-(dU (Dy.m a):Int))>0 then((((p:Int)+3)+(dU (Dy.m b):Int))-(dU (Dy.m a):Int))else 0))) (.e (iP (gw a b p 3:Int)))),.c (qH a.m (gw a b p 3) ae ae ae),.c (tw _ _ ae ae af :dM 296 [(dO (dN (a.m*2^(gw a b p 3)))),(dO (dN b.m))] _),
   eh (a.e-(gw a b p 3:Int)) ae,eh ((a.e-(gw a b p 3:Int))-b.e) ae,.c (nZ _ ae :dM 194 [(dO (dN ((a.m*2^(gw a b p 3))%b.m)))] _),.c (BA (! (a.neg==b.neg)) ((a.m*2^(gw a b p 3))/b.m) ((a.e-(gw a b p 3:Int))-b.e) (decide (0<(dU ((a.m*2^(gw a b p 3))%b.m):Int))) up p ae af ae ae ae ae af)]<|rQ (.ef [(dP (fi (!(a.neg==b.neg)) ((a.m*2^(gw a b p 3))/b.m) ((a.e-(gw a b p 3:Int))-b.e) (decide (0<(dU ((a.m*2^(gw a b p 3))%b.m):Int))) p up)),(iP (eU (!(a.neg==b.neg)) ((a.m*2^(gw a b p 3))/b.m) ((a.e-(gw a b p 3:Int))-b.e) (decide (0<(dU ((a.m*2^(gw a b p 3))%b.m):Int))) p up))]) (.ef [dP (kz a b p up),iP (mh a b p up)]) (by rw[<-d1,<-d2,<-eZ];rfl)) ah 
theorem Qi(a b:Dy)(p:Nat)(ha:a.Valid)(hb:b.Valid)(b0:b.m≠0)(dW:8<=p)(dR:p<=512):dM 236 [(dP a),(dP b),(iP p)] (.ef [dP (kz a b p false),iP (mh a b p false)]):=by
 exact tr true Tryz.call236 Tryz.func236 (chain [.c (Qk _ _ _ _ af af af ae ae :dM 275 [(dP a),(dP b),(iP p),(bP false)] _)]<|.nil) ah 
theorem Qj(a b:Dy)(p:Nat)(ha:a.Valid)(hb:b.Valid)(b0:b.m≠0)(dW:8<=p)(dR:p<=512):dM 237 [(dP a),(dP b),(iP p)] (.ef [dP (kz a b p true),iP (mh a b p true)]):=by
 exact tr true Tryz.call237 Tryz.func237 (chain [.c (Qk _ _ _ _ af af af ae ae :dM 275 [(dP a),(dP b),(iP p),(bP true)] _)]<|.nil) ah 
open Go.RowKit Fp Pu
def N4(l:List Iv)(i:Nat):PS:=⟨19,true,[(7,.e (iP i)),(6,.e (iP l.length)),(5,.e (dY l))],[]⟩
def NY(l:List Iv)(N:Nat)(i:Nat):PS:=⟨19,true,[(7,.e (iP i)),(6,.e (iP l.length)),(5,.e (dY l))],[]⟩
theorem jf(a:Iv):E.le (.sl true 1 7 fun i j=>(ev a).getD (i*7+j) (.v (.bool false))) (dY [a]):=.sl fun i j hi hj=>by
 obtain rfl:i=0:= ae ;rcases j with _|_|_|_|_|_|_|j
 all_goals first|exact⟨.refl _,rfl⟩|omega
theorem tn(a b:Iv):E.le (.sl true 2 7 fun i j=>(ev a++ev b).getD (i*7+j) (.v (.bool false))) (dY [a,b]):=.sl fun i j hi hj=>by
 obtain rfl|rfl:i=0\/i=1:= ae 
 all_goals
  rcases j with _|_|_|_|_|_|_|j
  all_goals first|exact⟨.refl _,rfl⟩|omega
theorem oJ{x:Iv}(h:x.Valid)(ha:x.all=false):x.lo.Valid/\x.hi.Valid/\ew x.lo x.hi<=0:=by
 rcases h with⟨h1,_⟩|⟨_,h⟩
 .rw [ha]at h1;cases h1
 .exact h
theorem Hq{x:Iv}(h:x.Valid)(ha:x.all=true):x.lo=eW/\x.hi=eW:=by
 rcases h with⟨_,h⟩|⟨h1,_⟩
 .exact h
 .rw [ha]at h1;cases h1
theorem ji : dM 69 [] (dQ dV):=by
 exact tr true Tryz.call69 Tryz.func69 (chain [.o 1 (.e EG:PV.le (.e (.agg [(bP false),(.v (.slice none 0 0)),(iP 0),(bP false),(.v (.slice none 0 0)),(iP 0),(bP true)])) (.e (dQ dV)))]<|.nil) ah 
theorem wu(lo hi:Dy)(e f:Int):dM 90 [(dP lo),(iP e),(dP hi),(iP f)] (dQ (gN lo e hi f)):=by
 by_cases he:e=0
 .by_cases hf:f=0
  .exact tr true Tryz.call90 Tryz.func90 (chain [tB 10 (by rw[he];rfl:(e != 0)=false),tB 13 (by rw[hf];rfl:(f != 0)=false)]<|rQ (dQ (Iv.mk lo hi false)) (dQ (gN lo e hi f)) (by rw[show gN lo e hi f=⟨lo,hi,false⟩by unfold gN;rw[aB (by simp[he,hf])]];try rfl)) ah 
  .exact tr true Tryz.call90 Tryz.func90 (chain [tB 10 (by rw[he];rfl:(e != 0)=false),tB 13 (by simpa using hf:(f != 0)=true),.c (ji:dM 69 [] _)]<|rQ (dQ dV) (dQ (gN lo e hi f)) (by rw[show gN lo e hi f=dV by unfold gN;rw[aC (.inr hf)]])) ah 
 .exact tr true Tryz.call90 Tryz.func90 (chain [tB 10 (by simpa using he:(e != 0)=true),.c (ji:dM 69 [] _)]<|rQ (dQ dV) (dQ (gN lo e hi f)) (by rw[show gN lo e hi f=dV by unfold gN;rw[aC (.inl he)]])) ah 
theorem N8 : dM 137 [(dP eW)] (bP true):=by
 exact tr true Tryz.call137 Tryz.func137 (chain [tB 4 (rfl:eW.neg=false),tB 10 (pk (oM.2 rfl):(((dN eW.m).length:Int)==0)=true),tB 15 (rfl:(eW.e==0)=true)]<|.nil) ah 
theorem iS(x:Iv)(hx:x.Valid):dM 84 [(dQ x)] (bP true):=by
 by_cases fW:x.all=true
 .obtain ⟨h1,h2⟩:=Hq hx fW
  exact tr true Tryz.call84 Tryz.func84 (chain [tB 5 (fW:x.all=true),.c (by rw[h1];exact N8:dM 137 [(dP x.lo)] (bP true)),.c (by rw[h2];exact N8:dM 137 [(dP x.hi)] (bP true))]<|.nil) ah 
 .replace fW:x.all=false:=by simpa using fW
  obtain⟨h1,h2,h3⟩:=oJ hx fW;exact tr true Tryz.call84 Tryz.func84 (chain [tB 5 (fW:x.all=false),.c (lK _ af :dM 68 [(dP x.lo)] _),.c (lK _ af :dM 68 [(dP x.hi)] _),.c (gU _ _ af af :dM 37 [(dP x.lo),(dP x.hi)] _),tB 30 (aE h3)]<|.nil) ah 
theorem N5(l:List Iv)(hl:l.length<=1000)(hv:∀ i,i<l.length->(l.getD i dV).Valid)(ha:∀ i,i<l.length->(l.getD i dV).all=false):dM 86 [(dY l)] (bP true):=by
 exact tr true Tryz.call86 Tryz.func86 (chain [.s (Sp.upto (N4 l) 0 l.length ae (fun i hi mN=>by
    have Nx:=hv i ae;have Gm:=ha i ae;exact eu (chain [tT 8 ((i:Int)<(l.length:Int)) ae,iX ((i:Int)) (l.length) ae,tB 12 (Gm:(l.getD i dV).all=false),.c (iS _ af :dM 84 [(dQ (l.getD i dV))] _),
     eh ((i:Int)+1) ae]<|.nil) ah)
  (fun hi=>by
    exact eu (chain [tF 8 ((l.length:Int)<(l.length:Int)) ae]<|.nil) ah) ak :fP 2 Tryz.f86 (N4 l 0) (.exit 0) ⟨19,true,[],[]⟩) .nil]<|.nil) ah 
theorem Ho(l:List Iv)(hl:l.length<=1000)(hv:∀ i,i<l.length->(l.getD i dV).Valid)(N:Nat)(hN:N<l.length)(ha:∀ i,i<N->(l.getD i dV).all=false)(nR:(l.getD N dV).all=true):dM 86 [(dY l)] (bP false):=by
 exact tr true Tryz.call86 Tryz.func86 (chain [.s (Sp.upto (NY l N) 0 N ae (fun i hi mN=>by
    have Nx:=hv i ae;have Gm:=ha i ae;exact eu (chain [tT 8 ((i:Int)<(l.length:Int)) ae,iX ((i:Int)) (l.length) ae,tB 12 (Gm:(l.getD i dV).all=false),.c (iS _ af :dM 84 [(dQ (l.getD i dV))] _),
     eh ((i:Int)+1) ae]<|.nil) ah)
  (fun hi=>by
    exact eu (chain [tT 8 ((N:Int)<(l.length:Int)) ae,iX ((N:Int)) (l.length) ae,tB 12 (nR:(l.getD N dV).all=true)]<|.nil) ah) ak :fP 2 Tryz.f86 (NY l N 0) .ret ⟨19,true,[(2,.e (bP false))],[]⟩) .nil]<|.nil) ah 
theorem k0(x:Iv)(hx:x.Valid):dM 86 [dY [x]] (bP (!x.all)):=by
 have hv:∀ i,i<[x].length->([x].getD i dV).Valid:=fun i hi=>(match i,hi with
  | 0,_=>hx
  | n+1,hi=>absurd hi aj)
 cases fW:x.all with
 | true=>exact Ho [x] aj hv 0 aj (fun i hi=>absurd hi (aV i)) fW
 | false=>exact N5 [x] aj hv (fun i hi=>(match i,hi with
  | 0,_=>fW
  | n+1,hi=>absurd hi aj))
theorem tk(x y:Iv)(hx:x.Valid)(hy:y.Valid):dM 86 [dY [x,y]] (bP (!(x.all||y.all))):=by
 have hv:∀ i,i<[x,y].length->([x,y].getD i dV).Valid:=fun i hi=>(match i,hi with
  | 0,_=>hx
  | 1,_=>hy
  | n+2,hi=>absurd hi aj)
 cases fW:x.all with
 | true=>exact Ho [x,y] aj hv 0 aj (fun i hi=>absurd hi (aV i)) fW
 | false=>cases uG:y.all with
  | true=>exact Ho [x,y] aj hv 1 aj (fun i hi=>(match i,hi with
   | 0,_=>fW
   | n+1,hi=>absurd hi ae)) uG
  | false=>exact N5 [x,y] aj hv (fun i hi=>(match i,hi with
   | 0,_=>fW
   | 1,_=>uG
   | n+2,hi=>absurd hi aj))
theorem yy(x y:Iv)(p:Nat)(hx:x.Valid)(hy:y.Valid)(dW:8<=p)(dR:p<=512):dM 44 [(dQ x),(dQ y),(iP p)] (dQ (fp x y p)):=by
 by_cases hk:(x.all||y.all)=true
 .exact tr true Tryz.call44 Tryz.func44 (chain [.o 13 (.e (tn _ _):PV.le (.e (.sl true 2 7 fun i_ j_=>(ev x++ev y).getD (i_*7+j_) (.v (.bool false)))) (.e (dY [x,y]))),.c (tk _ _ af af :dM 86 [(dY [x,y])] _),tB 14 (by rw[hk];rfl:(!(x.all||y.all))=false),.c (ji:dM 69 [] _)]<|rQ (dQ dV) (dQ (fp x y p)) (by rw[show fp x y p=dV by unfold fp;rw[aC hk]])) ah 
 .replace hk:(x.all||y.all)=false:=by simpa using hk
  have fW:x.all=false:=by cases h:x.all;rfl;rw[h]at hk;simp at hk
  have uG:y.all=false:=by cases h:y.all;rfl;rw[h]at hk;simp at hk
  obtain⟨v1,v2,v3⟩:=oJ hx fW;obtain⟨v4,v5,v6⟩:=oJ hy uG;exact tr true Tryz.call44 Tryz.func44 (chain [.o 13 (.e (tn _ _):PV.le (.e (.sl true 2 7 fun i_ j_=>(ev x++ev y).getD (i_*7+j_) (.v (.bool false)))) (.e (dY [x,y]))),.c (tk _ _ af af :dM 86 [(dY [x,y])] _),tB 14 (by rw[hk];rfl:(!(x.all||y.all))=true),.c (qy _:dM 87 [(iP p)] _),tB 18 (nf.2 ⟨ ae, ae⟩:(im (p:Int))=true),.c (acO x.lo y.lo p af af ae ae),.c (Qg x.hi y.hi p af af ae ae),.c (wu _ _ _ _:dM 90 [(dP (ff (ep x.lo y.lo) p false)),(iP (fg (ep x.lo y.lo) p false)),(dP (ff (ep x.hi y.hi) p true)),(iP (fg (ep x.hi y.hi) p true))] _)]<|rQ (dQ (gN (ff (ep x.lo y.lo) p false) (fg (ep x.lo y.lo) p false) (ff (ep x.hi y.hi) p true) (fg (ep x.hi y.hi) p true))) (dQ (fp x y p)) (by rw[show fp x y p=_ by unfold fp;rw[aB (by rw[hk];decide)]])) ah 
theorem N6(x:Iv)(hx:x.Valid):dM 240 [(dQ x)] (dQ (nG x)):=by
 by_cases fW:x.all=true
 .exact tr true Tryz.call240 Tryz.func240 (chain [.o 4 (.e (jf _):PV.le (.e (.sl true 1 7 fun i_ j_=>(ev x).getD (i_*7+j_) (.v (.bool false)))) (.e (dY [x]))),.c (k0 _ af :dM 86 [(dY [x])] _),tB 5 (by rw[fW];rfl:(!x.all)=false),.c (ji:dM 69 [] _)]<|rQ (dQ dV) (dQ (nG x)) (by rw[show nG x=dV by unfold nG;rw[aC fW]])) ah 
 .replace fW:x.all=false:=by simpa using fW
  obtain⟨v1,v2,v3⟩:=oJ hx fW;exact tr true Tryz.call240 Tryz.func240 (chain [.o 4 (.e (jf _):PV.le (.e (.sl true 1 7 fun i_ j_=>(ev x).getD (i_*7+j_) (.v (.bool false)))) (.e (dY [x]))),.c (k0 _ af :dM 86 [(dY [x])] _),tB 5 (by rw[fW];rfl:(!x.all)=true),.c (sO _ af :dM 191 [(dP x.hi)] _),.c (sO _ af :dM 191 [(dP x.lo)] _)]<|rQ (dQ (Iv.mk (eD x.hi) (eD x.lo) false)) (dQ (nG x)) (by rw[show nG x=⟨eD x.hi,eD x.lo,false⟩by unfold nG;rw[aB (by rw[fW];decide)]];try rfl)) ah 
theorem aad(x y:Iv)(p:Nat)(hx:x.Valid)(hy:y.Valid)(dW:8<=p)(dR:p<=512):dM 238 [(dQ x),(dQ y),(iP p)] (dQ (BN x y p)):=by
 have hn:=yL hy;exact tr true Tryz.call238 Tryz.func238 (chain [.c (N6 _ af :dM 240 [(dQ y)] _),.c (yy _ _ _ af af ae ae :dM 44 [(dQ x),(dQ (nG y)),(iP p)] _)]<|.nil) ah 
theorem uI(d:Dy)(hd:d.Valid):dM 29 [(dP d)] (dQ (gi d)):=by
 exact tr true Tryz.call29 Tryz.func29 (chain [.c (lK _ af :dM 68 [(dP d)] _)]<|.nil) ah 
theorem zY(d:Dy)(hd:d.Valid):dM 302 [(dP d)] (dP (ij d)):=by
 have hl:=hd.dN;by_cases h0:d.m=0
 .have e1:ij d=eW:=by
   rcases hd.canon with q|q
   .unfold ij eW;rw[q.1,q.2.2]
   .omega
  exact tr true Tryz.call302 Tryz.func302 (chain [.c (lK _ af :dM 68 [(dP d)] _),tB 10 (pk (oM.2 h0):(((dN d.m).length:Int)==0)=true),.o 12 (.e rG:PV.le (.e (.agg [(bP false),(.v (.slice none 0 0)),(iP 0)])) (.e (dP eW)))]<|rQ (dP eW) (dP (ij d)) (by rw[e1])) ah 
 .exact tr true Tryz.call302 Tryz.func302 (chain [.c (lK _ af :dM 68 [(dP d)] _),tB 10 (ko (mo h0):(((dN d.m).length:Int)==0)=false),.c (K0 _ (gr _) ae :dM 129 [(dO (dN d.m))] _)]<|.nil) ah 
theorem DC(a b:Dy)(ha:a.Valid)(hb:b.Valid):dM 192 [(dP a),(dP b)] (dP (minD a b)):=by
 have hc:=zL a b;by_cases h:(ew a b<=0)
 .exact tr true Tryz.call192 Tryz.func192 (chain [.c (gU _ _ af af :dM 37 [(dP a),(dP b)] _),tB 8 (aE h)]<|rQ (dP a) (dP (minD a b)) (by unfold minD;rw[aB ae])) ah 
 .exact tr true Tryz.call192 Tryz.func192 (chain [.c (gU _ _ af af :dM 37 [(dP a),(dP b)] _),tB 8 (aD h)]<|rQ (dP b) (dP (minD a b)) (by unfold minD;rw[aC ae])) ah 
theorem DE(a b:Dy)(ha:a.Valid)(hb:b.Valid):dM 193 [(dP a),(dP b)] (dP (maxD a b)):=by
 have hc:=zL a b;by_cases h:(0<=ew a b)
 .exact tr true Tryz.call193 Tryz.func193 (chain [.c (gU _ _ af af :dM 37 [(dP a),(dP b)] _),tB 8 (aE h)]<|rQ (dP a) (dP (maxD a b)) (by unfold maxD;rw[aB ae])) ah 
 .exact tr true Tryz.call193 Tryz.func193 (chain [.c (gU _ _ af af :dM 37 [(dP a),(dP b)] _),tB 8 (aD h)]<|rQ (dP b) (dP (maxD a b)) (by unfold maxD;rw[aC ae])) ah 
theorem DF(x:Iv)(hx:x.Valid):dM 276 [(dQ x)] (iP (jc x)):=by
 by_cases fW:x.all=true
 .exact tr true Tryz.call276 Tryz.func276 (chain [.o 5 (.e (jf _):PV.le (.e (.sl true 1 7 fun i_ j_=>(ev x).getD (i_*7+j_) (.v (.bool false)))) (.e (dY [x]))),.c (k0 _ af :dM 86 [(dY [x])] _),tB 6 (by rw[fW];rfl:(!x.all)=false)]<|rQ (iP 0) (iP (jc x)) (by rw[show jc x=0 by unfold jc;rw[aC fW]])) ah 
 .replace fW:x.all=false:=by simpa using fW
  obtain⟨v1,v2,v3⟩:=oJ hx fW;by_cases h1:0<x.lo.sign
  .exact tr true Tryz.call276 Tryz.func276 (chain [.o 5 (.e (jf _):PV.le (.e (.sl true 1 7 fun i_ j_=>(ev x).getD (i_*7+j_) (.v (.bool false)))) (.e (dY [x]))),.c (k0 _ af :dM 86 [(dY [x])] _),tB 6 (by rw[fW];rfl:(!x.all)=true),.c (jN _ af :dM 35 [(dP x.lo)] _),tB 12 (aE h1)]<|rQ (iP 1) (iP (jc x)) (by rw[show jc x=1 by unfold jc;rw[aB (by rw[fW];decide)];simp[h1]])) ah 
  .by_cases h2:x.hi.sign<0
   .exact tr true Tryz.call276 Tryz.func276 (chain [.o 5 (.e (jf _):PV.le (.e (.sl true 1 7 fun i_ j_=>(ev x).getD (i_*7+j_) (.v (.bool false)))) (.e (dY [x]))),.c (k0 _ af :dM 86 [(dY [x])] _),tB 6 (by rw[fW];rfl:(!x.all)=true),.c (jN _ af :dM 35 [(dP x.lo)] _),tB 12 (aD h1),.c (jN _ af :dM 35 [(dP x.hi)] _),tB 17 (aE h2)]<|rQ (iP (-1)) (iP (jc x)) (by rw[show jc x = -1 by unfold jc;rw[aB (by rw[fW];decide)];simp[h1,h2]])) ah 
   .exact tr true Tryz.call276 Tryz.func276 (chain [.o 5 (.e (jf _):PV.le (.e (.sl true 1 7 fun i_ j_=>(ev x).getD (i_*7+j_) (.v (.bool false)))) (.e (dY [x]))),.c (k0 _ af :dM 86 [(dY [x])] _),tB 6 (by rw[fW];rfl:(!x.all)=true),.c (jN _ af :dM 35 [(dP x.lo)] _),tB 12 (aD h1),.c (jN _ af :dM 35 [(dP x.hi)] _),tB 17 (aD h2)]<|rQ (iP 0) (iP (jc x)) (by rw[show jc x=0 by unfold jc;rw[aB (by rw[fW];decide)];simp[h1,h2]])) ah 
theorem Hp(x:Iv)(hx:x.Valid)(fW:x.all=false):dM 298 [(dQ x)] (.ef [dP (iY x),bP true]):=by
 obtain⟨v1,v2,v3⟩:=oJ hx fW;have w1:=sG v1;have w2:=sG v2;exact tr true Tryz.call298 Tryz.func298 (chain [.o 5 (.e (jf _):PV.le (.e (.sl true 1 7 fun i_ j_=>(ev x).getD (i_*7+j_) (.v (.bool false)))) (.e (dY [x]))),.c (k0 _ af :dM 86 [(dY [x])] _),tB 6 (by rw[fW];rfl:(!x.all)=true),.c (zY _ af :dM 302 [(dP x.lo)] _),.c (zY _ af :dM 302 [(dP x.hi)] _),.c (DE _ _ af af :dM 193 [(dP (ij x.lo)),(dP (ij x.hi))] _)]<|.nil) ah 
theorem Z9(x:Iv)(hx:x.Valid)(fW:x.all=false):dM 297 [(dQ x)] (.ef [dP (j9 x),bP true]):=by
 obtain⟨v1,v2,v3⟩:=oJ hx fW;have w1:=sG v1;have w2:=sG v2;by_cases hs:jc x=0
 .exact tr true Tryz.call297 Tryz.func297 (chain [.o 5 (.e (jf _):PV.le (.e (.sl true 1 7 fun i_ j_=>(ev x).getD (i_*7+j_) (.v (.bool false)))) (.e (dY [x]))),.c (k0 _ af :dM 86 [(dY [x])] _),tB 6 (by rw[fW];rfl:(!x.all)=true),.c (DF _ af :dM 276 [(dQ x)] _),tB 11 (by rw[hs];rfl:((jc x)==0)=true),.o 12 (.e rG:PV.le (.e (.agg [(bP false),(.v (.slice none 0 0)),(iP 0)])) (.e (dP eW)))]<|rQ (.ef [(dP eW),(bP true)]) (.ef [dP (j9 x),bP true]) (by rw[show j9 x=eW by unfold j9;rw[aC hs]])) ah 
 .exact tr true Tryz.call297 Tryz.func297 (chain [.o 5 (.e (jf _):PV.le (.e (.sl true 1 7 fun i_ j_=>(ev x).getD (i_*7+j_) (.v (.bool false)))) (.e (dY [x]))),.c (k0 _ af :dM 86 [(dY [x])] _),tB 6 (by rw[fW];rfl:(!x.all)=true),.c (DF _ af :dM 276 [(dQ x)] _),tB 11 (by simpa using hs:((jc x)==0)=false),.c (zY _ af :dM 302 [(dP x.lo)] _),.c (zY _ af :dM 302 [(dP x.hi)] _),.c (DC _ _ af af :dM 192 [(dP (ij x.lo)),(dP (ij x.hi))] _)]<|rQ (.ef [(dP (minD (ij x.lo) (ij x.hi))),(bP true)]) (.ef [dP (j9 x),bP true]) (by rw[show j9 x=minD (ij x.lo) (ij x.hi)by unfold j9;rw[aB hs]])) ah 
theorem Hn(x:Iv)(hx:x.Valid):dM 277 [(dQ x)] (dQ (fz x)):=by
 by_cases fW:x.all=true
 .exact tr true Tryz.call277 Tryz.func277 (chain [.o 8 (.e (jf _):PV.le (.e (.sl true 1 7 fun i_ j_=>(ev x).getD (i_*7+j_) (.v (.bool false)))) (.e (dY [x]))),.c (k0 _ af :dM 86 [(dY [x])] _),tB 9 (by rw[fW];rfl:(!x.all)=false),.c (ji:dM 69 [] _)]<|rQ (dQ dV) (dQ (fz x)) (by rw[show fz x=dV by unfold fz;rw[aC fW]])) ah 
 .replace fW:x.all=false:=by simpa using fW
  obtain⟨v1,v2,v3⟩:=oJ hx fW;exact tr true Tryz.call277 Tryz.func277 (chain [.o 8 (.e (jf _):PV.le (.e (.sl true 1 7 fun i_ j_=>(ev x).getD (i_*7+j_) (.v (.bool false)))) (.e (dY [x]))),.c (k0 _ af :dM 86 [(dY [x])] _),tB 9 (by rw[fW];rfl:(!x.all)=true),.c (Z9 _ af fW:dM 297 [(dQ x)] _),.c (Hp _ af fW:dM 298 [(dQ x)] _)]<|rQ (dQ (Iv.mk (j9 x) (iY x) false)) (dQ (fz x)) (by rw[show fz x=⟨j9 x,iY x,false⟩by unfold fz;rw[aB (by rw[fW];decide)]];try rfl)) ah 
open Go.RowKit Fp Pu
def Z5(x y:Iv)(p:Nat)(gd gu:FuncId)(DD:Dy->Dy->Bool->Dy)(EE:Dy->Dy->Bool->Int):PS:=⟨96,true,[(41,.e (iP 0)),(40,.e (.agg (ev (Iv.mk x.lo y.lo x.lo.neg)++[(dO (dN x.lo.m)),(iP x.lo.e)]++ev (Iv.mk y.hi x.hi y.lo.neg)++[(dO (dN y.lo.m)),(iP y.lo.e)]++fD x.hi++fD y.hi))),(12,.box 12 0),(10,.box 10 0),(2,.e (iP p)),(3,.e (.fn gd [])),(4,.e (.fn gu []))],[(12,.cells 41 (ev (Iv.mk (DD x.lo y.lo false) (DD x.lo y.lo true) false))),(10,.cells 41 [(bP false),(.v (.slice none 0 0)),(iP 0),(bP false),(.v (.slice none 0 0)),(iP 0),(bP false)])]⟩
def Z6(x y:Iv)(p:Nat)(gd gu:FuncId)(DD:Dy->Dy->Bool->Dy)(EE:Dy->Dy->Bool->Int):PS:=⟨96,true,[(41,.e (iP (0+1))),(40,.e (.agg (ev (Iv.mk x.lo y.lo x.lo.neg)++[(dO (dN x.lo.m)),(iP x.lo.e)]++ev (Iv.mk y.hi x.hi y.lo.neg)++[(dO (dN y.lo.m)),(iP y.lo.e)]++fD x.hi++fD y.hi))),(12,.box 12 0),(10,.box 10 0),(2,.e (iP p)),(3,.e (.fn gd [])),(4,.e (.fn gu []))],[(12,.cells 41 (ev (Iv.mk (minD (DD x.lo y.lo false) (DD x.lo y.hi false)) (maxD (DD x.lo y.lo true) (DD x.lo y.hi true)) false))),(10,.cells 41 [(bP false),(.v (.slice none 0 0)),(iP 0),(bP false),(.v (.slice none 0 0)),(iP 0),(bP false)])]⟩
def Z7(x y:Iv)(p:Nat)(gd gu:FuncId)(DD:Dy->Dy->Bool->Dy)(EE:Dy->Dy->Bool->Int):PS:=⟨96,true,[(41,.e (iP ((0+1)+1))),(40,.e (.agg (ev (Iv.mk x.lo y.lo x.lo.neg)++[(dO (dN x.lo.m)),(iP x.lo.e)]++ev (Iv.mk y.hi x.hi y.lo.neg)++[(dO (dN y.lo.m)),(iP y.lo.e)]++fD x.hi++fD y.hi))),(12,.box 12 0),(10,.box 10 0),(2,.e (iP p)),(3,.e (.fn gd [])),(4,.e (.fn gu []))],[(12,.cells 41 (ev (Iv.mk (minD (minD (DD x.lo y.lo false) (DD x.lo y.hi false)) (DD x.hi y.lo false)) (maxD (maxD (DD x.lo y.lo true) (DD x.lo y.hi true)) (DD x.hi y.lo true)) false))),(10,.cells 41 [(bP false),(.v (.slice none 0 0)),(iP 0),(bP false),(.v (.slice none 0 0)),(iP 0),(bP false)])]⟩
def Z8(x y:Iv)(p:Nat)(gd gu:FuncId)(DD:Dy->Dy->Bool->Dy)(EE:Dy->Dy->Bool->Int):PS:=⟨96,true,[(41,.e (iP (((0+1)+1)+1))),(40,.e (.agg (ev (Iv.mk x.lo y.lo x.lo.neg)++[(dO (dN x.lo.m)),(iP x.lo.e)]++ev (Iv.mk y.hi x.hi y.lo.neg)++[(dO (dN y.lo.m)),(iP y.lo.e)]++fD x.hi++fD y.hi))),(12,.box 12 0),(10,.box 10 0),(2,.e (iP p)),(3,.e (.fn gd [])),(4,.e (.fn gu []))],[(12,.cells 41 (ev (Iv.mk (minD (minD (minD (DD x.lo y.lo false) (DD x.lo y.hi false)) (DD x.hi y.lo false)) (DD x.hi y.hi false)) (maxD (maxD (maxD (DD x.lo y.lo true) (DD x.lo y.hi true)) (DD x.hi y.lo true)) (DD x.hi y.hi true)) false))),(10,.cells 41 [(bP false),(.v (.slice none 0 0)),(iP 0),(bP false),(.v (.slice none 0 0)),(iP 0),(bP false)])]⟩
theorem NX(x y:Iv)(p:Nat)(gd gu:FuncId)(DD:Dy->Dy->Bool->Dy)(EE:Dy->Dy->Bool->Int)(hd:∀ a b,(a=x.lo\/a=x.hi)->(b=y.lo\/b=y.hi)->dM gd [dP a,dP b,iP (p:Int)] (.ef [dP (DD a b false),iP (EE a b false)]))
  (hu:∀ a b,(a=x.lo\/a=x.hi)->(b=y.lo\/b=y.hi)->dM gu [dP a,dP b,iP (p:Int)] (.ef [dP (DD a b true),iP (EE a b true)])) (hv:∀ a b up,(DD a b up).Valid):dM 91 [(dQ x),(dQ y),(iP p),(.fn gd []),(.fn gu [])] (dQ (ku DD EE x y)):=by
 exact tr true Tryz.call91 Tryz.func91 (chain [.u 5,tB 42 ( ag :(decide ((0:Int)<4))=true)]<|.w ((EE x.lo y.lo false)=0)
  (fun k1=>.w ((EE x.lo y.lo true)=0)
   (fun k2=>chain [.j 3 (Z5 x y p gd gu DD EE)
   (chain [iX (0) (4) ae,iX (0) (2) ae,iX (1) (2) ae,.c (hd _ _ (.inl rfl) (.inl rfl):dM gd ((dP x.lo)::(dP y.lo)::(iP p)::[]) _),iX (0) (2) ae,iX (1) (2) ae,.c (hu _ _ (.inl rfl) (.inl rfl):dM gu ((dP x.lo)::(dP y.lo)::(iP p)::[]) _),tB 66 (az k1),tB 69 (az k2),tB 73 ( ag :((0:Int)==0)=true),tB 84 ( ag :((0:Int)==0)=true)]<|.nil),
    eh (0+1) ae,tB 42 ( ag :(decide (((0+1):Int)<4))=true)]<|.w ((EE x.lo y.hi false)=0)
    (fun k3=>.w ((EE x.lo y.hi true)=0)
     (fun k4=>chain [.j 3 (Z6 x y p gd gu DD EE)
   (chain [iX ((0+1)) (4) ae,iX (0) (2) ae,iX (1) (2) ae,.c (hd _ _ (.inl rfl) (.inr rfl):dM gd ((dP x.lo)::(dP y.hi)::(iP p)::[]) _),iX (0) (2) ae,iX (1) (2) ae,.c (hu _ _ (.inl rfl) (.inr rfl):dM gu ((dP x.lo)::(dP y.hi)::(iP p)::[]) _),tB 66 (az k3),tB 69 (az k4),tB 73 ( ag :(((0+1):Int)==0)=false),.c (gU _ _ (hv _ _ _) (hv _ _ _):dM 37 [(dP (DD x.lo y.hi false)),(dP (DD x.lo y.lo false))] _)]<|.w ((ew (DD x.lo y.hi false) (DD x.lo y.lo false))<0)
    (fun m1=>chain [tB 79 (aE m1),tB 84 ( ag :(((0+1):Int)==0)=false),.c (gU _ _ (hv _ _ _) (hv _ _ _):dM 37 [(dP (DD x.lo y.hi true)),(dP (DD x.lo y.lo true))] _)]<|.w (0<(ew (DD x.lo y.hi true) (DD x.lo y.lo true)))
     (fun m2=>chain [tB 90 (aE m2)]<|.e (chain [.b 12 (.of_eq (by rw[show minD (DD x.lo y.lo false) (DD x.lo y.hi false)=(DD x.lo y.hi false)from aC m1,show maxD (DD x.lo y.lo true) (DD x.lo y.hi true)=(DD x.lo y.hi true)from aC m2]):Bx.le (.cells 41 (ev (Iv.mk (DD x.lo y.hi false) (DD x.lo y.hi true) false))) (.cells 41 (ev (Iv.mk (minD (DD x.lo y.lo false) (DD x.lo y.hi false)) (maxD (DD x.lo y.lo true) (DD x.lo y.hi true)) false))))]<|.nil))
     (fun m2=>chain [tB 90 (aD m2)]<|.e (chain [.b 12 (.of_eq (by rw[show minD (DD x.lo y.lo false) (DD x.lo y.hi false)=(DD x.lo y.hi false)from aC m1,show maxD (DD x.lo y.lo true) (DD x.lo y.hi true)=(DD x.lo y.lo true)from aB m2]):Bx.le (.cells 41 (ev (Iv.mk (DD x.lo y.hi false) (DD x.lo y.lo true) false))) (.cells 41 (ev (Iv.mk (minD (DD x.lo y.lo false) (DD x.lo y.hi false)) (maxD (DD x.lo y.lo true) (DD x.lo y.hi true)) false))))]<|.nil)))
    (fun m1=>chain [tB 79 (aD m1),tB 84 ( ag :(((0+1):Int)==0)=false),.c (gU _ _ (hv _ _ _) (hv _ _ _):dM 37 [(dP (DD x.lo y.hi true)),(dP (DD x.lo y.lo true))] _)]<|.w (0<(ew (DD x.lo y.hi true) (DD x.lo y.lo true)))
     (fun m2=>chain [tB 90 (aE m2)]<|.e (chain [.b 12 (.of_eq (by rw[show minD (DD x.lo y.lo false) (DD x.lo y.hi false)=(DD x.lo y.lo false)from aB m1,show maxD (DD x.lo y.lo true) (DD x.lo y.hi true)=(DD x.lo y.hi true)from aC m2]):Bx.le (.cells 41 (ev (Iv.mk (DD x.lo y.lo false) (DD x.lo y.hi true) false))) (.cells 41 (ev (Iv.mk (minD (DD x.lo y.lo false) (DD x.lo y.hi false)) (maxD (DD x.lo y.lo true) (DD x.lo y.hi true)) false))))]<|.nil))
     (fun m2=>chain [tB 90 (aD m2)]<|.e (chain [.b 12 (.of_eq (by rw[show minD (DD x.lo y.lo false) (DD x.lo y.hi false)=(DD x.lo y.lo false)from aB m1,show maxD (DD x.lo y.lo true) (DD x.lo y.hi true)=(DD x.lo y.lo true)from aB m2]):Bx.le (.cells 41 (ev (Iv.mk (DD x.lo y.lo false) (DD x.lo y.lo true) false))) (.cells 41 (ev (Iv.mk (minD (DD x.lo y.lo false) (DD x.lo y.hi false)) (maxD (DD x.lo y.lo true) (DD x.lo y.hi true)) false))))]<|.nil)))),
      eh ((0+1)+1) ae,tB 42 ( ag :(decide ((((0+1)+1):Int)<4))=true)]<|.w ((EE x.hi y.lo false)=0)
      (fun k5=>.w ((EE x.hi y.lo true)=0)
       (fun k6=>chain [.j 3 (Z7 x y p gd gu DD EE)
   (chain [iX (((0+1)+1)) (4) ae,iX (0) (2) ae,iX (1) (2) ae,.c (hd _ _ (.inr rfl) (.inl rfl):dM gd ((dP x.hi)::(dP y.lo)::(iP p)::[]) _),iX (0) (2) ae,iX (1) (2) ae,.c (hu _ _ (.inr rfl) (.inl rfl):dM gu ((dP x.hi)::(dP y.lo)::(iP p)::[]) _),tB 66 (az k5),tB 69 (az k6),tB 73 ( ag :((((0+1)+1):Int)==0)=false),.c (gU _ _ (hv _ _ _) (rn (hv _ _ _) (hv _ _ _)):dM 37 [(dP (DD x.hi y.lo false)),(dP (minD (DD x.lo y.lo false) (DD x.lo y.hi false)))] _)]<|.w ((ew (DD x.hi y.lo false) (minD (DD x.lo y.lo false) (DD x.lo y.hi false)))<0)
    (fun m1=>chain [tB 79 (aE m1),tB 84 ( ag :((((0+1)+1):Int)==0)=false),.c (gU _ _ (hv _ _ _) (ph (hv _ _ _) (hv _ _ _)):dM 37 [(dP (DD x.hi y.lo true)),(dP (maxD (DD x.lo y.lo true) (DD x.lo y.hi true)))] _)]<|.w (0<(ew (DD x.hi y.lo true) (maxD (DD x.lo y.lo true) (DD x.lo y.hi true))))
     (fun m2=>chain [tB 90 (aE m2)]<|.e (chain [.b 12 (.of_eq (by rw[show minD (minD (DD x.lo y.lo false) (DD x.lo y.hi false)) (DD x.hi y.lo false)=(DD x.hi y.lo false)from aC m1,show maxD (maxD (DD x.lo y.lo true) (DD x.lo y.hi true)) (DD x.hi y.lo true)=(DD x.hi y.lo true)from aC m2]):Bx.le (.cells 41 (ev (Iv.mk (DD x.hi y.lo false) (DD x.hi y.lo true) false))) (.cells 41 (ev (Iv.mk (minD (minD (DD x.lo y.lo false) (DD x.lo y.hi false)) (DD x.hi y.lo false)) (maxD (maxD (DD x.lo y.lo true) (DD x.lo y.hi true)) (DD x.hi y.lo true)) false))))]<|.nil))
     (fun m2=>chain [tB 90 (aD m2)]<|.e (chain [.b 12 (.of_eq (by rw[show minD (minD (DD x.lo y.lo false) (DD x.lo y.hi false)) (DD x.hi y.lo false)=(DD x.hi y.lo false)from aC m1,show maxD (maxD (DD x.lo y.lo true) (DD x.lo y.hi true)) (DD x.hi y.lo true)=(maxD (DD x.lo y.lo true) (DD x.lo y.hi true))from aB m2]):Bx.le (.cells 41 (ev (Iv.mk (DD x.hi y.lo false) (maxD (DD x.lo y.lo true) (DD x.lo y.hi true)) false))) (.cells 41 (ev (Iv.mk (minD (minD (DD x.lo y.lo false) (DD x.lo y.hi false)) (DD x.hi y.lo false)) (maxD (maxD (DD x.lo y.lo true) (DD x.lo y.hi true)) (DD x.hi y.lo true)) false))))]<|.nil)))
    (fun m1=>chain [tB 79 (aD m1),tB 84 ( ag :((((0+1)+1):Int)==0)=false),.c (gU _ _ (hv _ _ _) (ph (hv _ _ _) (hv _ _ _)):dM 37 [(dP (DD x.hi y.lo true)),(dP (maxD (DD x.lo y.lo true) (DD x.lo y.hi true)))] _)]<|.w (0<(ew (DD x.hi y.lo true) (maxD (DD x.lo y.lo true) (DD x.lo y.hi true))))
     (fun m2=>chain [tB 90 (aE m2)]<|.e (chain [.b 12 (.of_eq (by rw[show minD (minD (DD x.lo y.lo false) (DD x.lo y.hi false)) (DD x.hi y.lo false)=(minD (DD x.lo y.lo false) (DD x.lo y.hi false))from aB m1,show maxD (maxD (DD x.lo y.lo true) (DD x.lo y.hi true)) (DD x.hi y.lo true)=(DD x.hi y.lo true)from aC m2]):Bx.le (.cells 41 (ev (Iv.mk (minD (DD x.lo y.lo false) (DD x.lo y.hi false)) (DD x.hi y.lo true) false))) (.cells 41 (ev (Iv.mk (minD (minD (DD x.lo y.lo false) (DD x.lo y.hi false)) (DD x.hi y.lo false)) (maxD (maxD (DD x.lo y.lo true) (DD x.lo y.hi true)) (DD x.hi y.lo true)) false))))]<|.nil))
     (fun m2=>chain [tB 90 (aD m2)]<|.e (chain [.b 12 (.of_eq (by rw[show minD (minD (DD x.lo y.lo false) (DD x.lo y.hi false)) (DD x.hi y.lo false)=(minD (DD x.lo y.lo false) (DD x.lo y.hi false))from aB m1,show maxD (maxD (DD x.lo y.lo true) (DD x.lo y.hi true)) (DD x.hi y.lo true)=(maxD (DD x.lo y.lo true) (DD x.lo y.hi true))from aB m2]):Bx.le (.cells 41 (ev (Iv.mk (minD (DD x.lo y.lo false) (DD x.lo y.hi false)) (maxD (DD x.lo y.lo true) (DD x.lo y.hi true)) false))) (.cells 41 (ev (Iv.mk (minD (minD (DD x.lo y.lo false) (DD x.lo y.hi false)) (DD x.hi y.lo false)) (maxD (maxD (DD x.lo y.lo true) (DD x.lo y.hi true)) (DD x.hi y.lo true)) false))))]<|.nil)))),
        eh (((0+1)+1)+1) ae,tB 42 ( ag :(decide (((((0+1)+1)+1):Int)<4))=true)]<|.w ((EE x.hi y.hi false)=0)
        (fun k7=>.w ((EE x.hi y.hi true)=0)
         (fun k8=>chain [.j 3 (Z8 x y p gd gu DD EE)
   (chain [iX ((((0+1)+1)+1)) (4) ae,iX (0) (2) ae,iX (1) (2) ae,.c (hd _ _ (.inr rfl) (.inr rfl):dM gd ((dP x.hi)::(dP y.hi)::(iP p)::[]) _),iX (0) (2) ae,iX (1) (2) ae,.c (hu _ _ (.inr rfl) (.inr rfl):dM gu ((dP x.hi)::(dP y.hi)::(iP p)::[]) _),tB 66 (az k7),tB 69 (az k8),tB 73 ( ag :(((((0+1)+1)+1):Int)==0)=false),.c (gU _ _ (hv _ _ _) (rn (rn (hv _ _ _) (hv _ _ _)) (hv _ _ _)):dM 37 [(dP (DD x.hi y.hi false)),(dP (minD (minD (DD x.lo y.lo false) (DD x.lo y.hi false)) (DD x.hi y.lo false)))] _)]<|.w ((ew (DD x.hi y.hi false) (minD (minD (DD x.lo y.lo false) (DD x.lo y.hi false)) (DD x.hi y.lo false)))<0)
    (fun m1=>chain [tB 79 (aE m1),tB 84 ( ag :(((((0+1)+1)+1):Int)==0)=false),.c (gU _ _ (hv _ _ _) (ph (ph (hv _ _ _) (hv _ _ _)) (hv _ _ _)):dM 37 [(dP (DD x.hi y.hi true)),(dP (maxD (maxD (DD x.lo y.lo true) (DD x.lo y.hi true)) (DD x.hi y.lo true)))] _)]<|.w (0<(ew (DD x.hi y.hi true) (maxD (maxD (DD x.lo y.lo true) (DD x.lo y.hi true)) (DD x.hi y.lo true))))
     (fun m2=>chain [tB 90 (aE m2)]<|.e (chain [.b 12 (.of_eq (by rw[show minD (minD (minD (DD x.lo y.lo false) (DD x.lo y.hi false)) (DD x.hi y.lo false)) (DD x.hi y.hi false)=(DD x.hi y.hi false)from aC m1,show maxD (maxD (maxD (DD x.lo y.lo true) (DD x.lo y.hi true)) (DD x.hi y.lo true)) (DD x.hi y.hi true)=(DD x.hi y.hi true)from aC m2]):Bx.le (.cells 41 (ev (Iv.mk (DD x.hi y.hi false) (DD x.hi y.hi true) false))) (.cells 41 (ev (Iv.mk (minD (minD (minD (DD x.lo y.lo false) (DD x.lo y.hi false)) (DD x.hi y.lo false)) (DD x.hi y.hi false)) (maxD (maxD (maxD (DD x.lo y.lo true) (DD x.lo y.hi true)) (DD x.hi y.lo true)) (DD x.hi y.hi true)) false))))]<|.nil))
     (fun m2=>chain [tB 90 (aD m2)]<|.e (chain [.b 12 (.of_eq (by rw[show minD (minD (minD (DD x.lo y.lo false) (DD x.lo y.hi false)) (DD x.hi y.lo false)) (DD x.hi y.hi false)=(DD x.hi y.hi false)from aC m1,show maxD (maxD (maxD (DD x.lo y.lo true) (DD x.lo y.hi true)) (DD x.hi y.lo true)) (DD x.hi y.hi true)=(maxD (maxD (DD x.lo y.lo true) (DD x.lo y.hi true)) (DD x.hi y.lo true))from aB m2]):Bx.le (.cells 41 (ev (Iv.mk (DD x.hi y.hi false) (maxD (maxD (DD x.lo y.lo true) (DD x.lo y.hi true)) (DD x.hi y.lo true)) false))) (.cells 41 (ev (Iv.mk (minD (minD (minD (DD x.lo y.lo false) (DD x.lo y.hi false)) (DD x.hi y.lo false)) (DD x.hi y.hi false)) (maxD (maxD (maxD (DD x.lo y.lo true) (DD x.lo y.hi true)) (DD x.hi y.lo true)) (DD x.hi y.hi true)) false))))]<|.nil)))
    (fun m1=>chain [tB 79 (aD m1),tB 84 ( ag :(((((0+1)+1)+1):Int)==0)=false),.c (gU _ _ (hv _ _ _) (ph (ph (hv _ _ _) (hv _ _ _)) (hv _ _ _)):dM 37 [(dP (DD x.hi y.hi true)),(dP (maxD (maxD (DD x.lo y.lo true) (DD x.lo y.hi true)) (DD x.hi y.lo true)))] _)]<|.w (0<(ew (DD x.hi y.hi true) (maxD (maxD (DD x.lo y.lo true) (DD x.lo y.hi true)) (DD x.hi y.lo true))))
     (fun m2=>chain [tB 90 (aE m2)]<|.e (chain [.b 12 (.of_eq (by rw[show minD (minD (minD (DD x.lo y.lo false) (DD x.lo y.hi false)) (DD x.hi y.lo false)) (DD x.hi y.hi false)=(minD (minD (DD x.lo y.lo false) (DD x.lo y.hi false)) (DD x.hi y.lo false))from aB m1,show maxD (maxD (maxD (DD x.lo y.lo true) (DD x.lo y.hi true)) (DD x.hi y.lo true)) (DD x.hi y.hi true)=(DD x.hi y.hi true)from aC m2]):Bx.le (.cells 41 (ev (Iv.mk (minD (minD (DD x.lo y.lo false) (DD x.lo y.hi false)) (DD x.hi y.lo false)) (DD x.hi y.hi true) false))) (.cells 41 (ev (Iv.mk (minD (minD (minD (DD x.lo y.lo false) (DD x.lo y.hi false)) (DD x.hi y.lo false)) (DD x.hi y.hi false)) (maxD (maxD (maxD (DD x.lo y.lo true) (DD x.lo y.hi true)) (DD x.hi y.lo true)) (DD x.hi y.hi true)) false))))]<|.nil))
     (fun m2=>chain [tB 90 (aD m2)]<|.e (chain [.b 12 (.of_eq (by rw[show minD (minD (minD (DD x.lo y.lo false) (DD x.lo y.hi false)) (DD x.hi y.lo false)) (DD x.hi y.hi false)=(minD (minD (DD x.lo y.lo false) (DD x.lo y.hi false)) (DD x.hi y.lo false))from aB m1,show maxD (maxD (maxD (DD x.lo y.lo true) (DD x.lo y.hi true)) (DD x.hi y.lo true)) (DD x.hi y.hi true)=(maxD (maxD (DD x.lo y.lo true) (DD x.lo y.hi true)) (DD x.hi y.lo true))from aB m2]):Bx.le (.cells 41 (ev (Iv.mk (minD (minD (DD x.lo y.lo false) (DD x.lo y.hi false)) (DD x.hi y.lo false)) (maxD (maxD (DD x.lo y.lo true) (DD x.lo y.hi true)) (DD x.hi y.lo true)) false))) (.cells 41 (ev (Iv.mk (minD (minD (minD (DD x.lo y.lo false) (DD x.lo y.hi false)) (DD x.hi y.lo false)) (DD x.hi y.hi false)) (maxD (maxD (maxD (DD x.lo y.lo true) (DD x.lo y.hi true)) (DD x.hi y.lo true)) (DD x.hi y.hi true)) false))))]<|.nil)))),
          eh ((((0+1)+1)+1)+1) ae,tB 42 ( ag :(decide ((((((0+1)+1)+1)+1):Int)<4))=false)]<|rQ (dQ (Iv.mk (minD (minD (minD (DD x.lo y.lo false) (DD x.lo y.hi false)) (DD x.hi y.lo false)) (DD x.hi y.hi false)) (maxD (maxD (maxD (DD x.lo y.lo true) (DD x.lo y.hi true)) (DD x.hi y.lo true)) (DD x.hi y.hi true)) false)) (dQ (ku DD EE x y)) (by rw[show ku DD EE x y=⟨(minD (minD (minD (DD x.lo y.lo false) (DD x.lo y.hi false)) (DD x.hi y.lo false)) (DD x.hi y.hi false)),(maxD (maxD (maxD (DD x.lo y.lo true) (DD x.lo y.hi true)) (DD x.hi y.lo true)) (DD x.hi y.hi true)),false⟩from aC ⟨⟨k1,k2⟩,⟨k3,k4⟩,⟨k5,k6⟩,⟨k7,k8⟩⟩];try rfl))
         (fun k8=>chain [iX ((((0+1)+1)+1)) (4) ae,iX (0) (2) ae,iX (1) (2) ae,.c (hd _ _ (.inr rfl) (.inr rfl):dM gd ((dP x.hi)::(dP y.hi)::(iP p)::[]) _),iX (0) (2) ae,iX (1) (2) ae,.c (hu _ _ (.inr rfl) (.inr rfl):dM gu ((dP x.hi)::(dP y.hi)::(iP p)::[]) _),tB 66 (az k7),tB 69 (aA k8),.c ji]<|rQ (dQ dV) (dQ (ku DD EE x y)) (by rw[show ku DD EE x y=dV from aB (by rintro⟨⟨q0,r0⟩,⟨q1,r1⟩,⟨q2,r2⟩,⟨q3,r3⟩⟩;exact k8 r3)])))
        (fun k7=>chain [iX ((((0+1)+1)+1)) (4) ae,iX (0) (2) ae,iX (1) (2) ae,.c (hd _ _ (.inr rfl) (.inr rfl):dM gd ((dP x.hi)::(dP y.hi)::(iP p)::[]) _),iX (0) (2) ae,iX (1) (2) ae,.c (hu _ _ (.inr rfl) (.inr rfl):dM gu ((dP x.hi)::(dP y.hi)::(iP p)::[]) _),tB 66 (aA k7),.c ji]<|rQ (dQ dV) (dQ (ku DD EE x y)) (by rw[show ku DD EE x y=dV from aB (by rintro⟨⟨q0,r0⟩,⟨q1,r1⟩,⟨q2,r2⟩,⟨q3,r3⟩⟩;exact k7 q3)])))
       (fun k6=>chain [iX (((0+1)+1)) (4) ae,iX (0) (2) ae,iX (1) (2) ae,.c (hd _ _ (.inr rfl) (.inl rfl):dM gd ((dP x.hi)::(dP y.lo)::(iP p)::[]) _),iX (0) (2) ae,iX (1) (2) ae,.c (hu _ _ (.inr rfl) (.inl rfl):dM gu ((dP x.hi)::(dP y.lo)::(iP p)::[]) _),tB 66 (az k5),tB 69 (aA k6),.c ji]<|rQ (dQ dV) (dQ (ku DD EE x y)) (by rw[show ku DD EE x y=dV from aB (by rintro⟨⟨q0,r0⟩,⟨q1,r1⟩,⟨q2,r2⟩,⟨q3,r3⟩⟩;exact k6 r2)])))
      (fun k5=>chain [iX (((0+1)+1)) (4) ae,iX (0) (2) ae,iX (1) (2) ae,.c (hd _ _ (.inr rfl) (.inl rfl):dM gd ((dP x.hi)::(dP y.lo)::(iP p)::[]) _),iX (0) (2) ae,iX (1) (2) ae,.c (hu _ _ (.inr rfl) (.inl rfl):dM gu ((dP x.hi)::(dP y.lo)::(iP p)::[]) _),tB 66 (aA k5),.c ji]<|rQ (dQ dV) (dQ (ku DD EE x y)) (by rw[show ku DD EE x y=dV from aB (by rintro⟨⟨q0,r0⟩,⟨q1,r1⟩,⟨q2,r2⟩,⟨q3,r3⟩⟩;exact k5 q2)])))
     (fun k4=>chain [iX ((0+1)) (4) ae,iX (0) (2) ae,iX (1) (2) ae,.c (hd _ _ (.inl rfl) (.inr rfl):dM gd ((dP x.lo)::(dP y.hi)::(iP p)::[]) _),iX (0) (2) ae,iX (1) (2) ae,.c (hu _ _ (.inl rfl) (.inr rfl):dM gu ((dP x.lo)::(dP y.hi)::(iP p)::[]) _),tB 66 (az k3),tB 69 (aA k4),.c ji]<|rQ (dQ dV) (dQ (ku DD EE x y)) (by rw[show ku DD EE x y=dV from aB (by rintro⟨⟨q0,r0⟩,⟨q1,r1⟩,⟨q2,r2⟩,⟨q3,r3⟩⟩;exact k4 r1)])))
    (fun k3=>chain [iX ((0+1)) (4) ae,iX (0) (2) ae,iX (1) (2) ae,.c (hd _ _ (.inl rfl) (.inr rfl):dM gd ((dP x.lo)::(dP y.hi)::(iP p)::[]) _),iX (0) (2) ae,iX (1) (2) ae,.c (hu _ _ (.inl rfl) (.inr rfl):dM gu ((dP x.lo)::(dP y.hi)::(iP p)::[]) _),tB 66 (aA k3),.c ji]<|rQ (dQ dV) (dQ (ku DD EE x y)) (by rw[show ku DD EE x y=dV from aB (by rintro⟨⟨q0,r0⟩,⟨q1,r1⟩,⟨q2,r2⟩,⟨q3,r3⟩⟩;exact k3 q1)])))
   (fun k2=>chain [iX (0) (4) ae,iX (0) (2) ae,iX (1) (2) ae,.c (hd _ _ (.inl rfl) (.inl rfl):dM gd ((dP x.lo)::(dP y.lo)::(iP p)::[]) _),iX (0) (2) ae,iX (1) (2) ae,.c (hu _ _ (.inl rfl) (.inl rfl):dM gu ((dP x.lo)::(dP y.lo)::(iP p)::[]) _),tB 66 (az k1),tB 69 (aA k2),.c ji]<|rQ (dQ dV) (dQ (ku DD EE x y)) (by rw[show ku DD EE x y=dV from aB (by rintro⟨⟨q0,r0⟩,⟨q1,r1⟩,⟨q2,r2⟩,⟨q3,r3⟩⟩;exact k2 r0)])))
  (fun k1=>chain [iX (0) (4) ae,iX (0) (2) ae,iX (1) (2) ae,.c (hd _ _ (.inl rfl) (.inl rfl):dM gd ((dP x.lo)::(dP y.lo)::(iP p)::[]) _),iX (0) (2) ae,iX (1) (2) ae,.c (hu _ _ (.inl rfl) (.inl rfl):dM gu ((dP x.lo)::(dP y.lo)::(iP p)::[]) _),tB 66 (aA k1),.c ji]<|rQ (dQ dV) (dQ (ku DD EE x y)) (by rw[show ku DD EE x y=dV from aB (by rintro⟨⟨q0,r0⟩,⟨q1,r1⟩,⟨q2,r2⟩,⟨q3,r3⟩⟩;exact k1 q0)]))) ah 
open Go.RowKit Fp Pu
theorem ael{y:Iv}(hy:y.Valid)(hs:jc y≠0):y.lo.m≠0/\y.hi.m≠0:=by
 unfold jc at hs;have ha:y.all=false:=by
  cases h:y.all with
  | false=>rfl
  | true=>rw[h]at hs;exact absurd rfl hs
 obtain⟨v1,v2,v3⟩:=oJ hy ha;rw[ha]at hs;simp only[aT,aL]at hs;have z:∀ d:Dy,d.m=0->d.sign=0:=fun d h=>by unfold Dy.sign;rw[aC h]
 have hc:=xt y.lo y.hi;rw[hc]at v3;constructor
 .intro h0
  have:=z _ h0;rw[this]at hs v3;split at hs
  .omega
  .split at hs
   .split at v3<;>omega
   .exact hs rfl
 .intro h0
  have:=z _ h0;rw[this]at hs v3;split at hs
  .split at v3<;>omega
  .split at hs
   .omega
   .exact hs rfl
theorem Vu(a b:Dy){p:Nat}(up:Bool)(hp:1<=p)(dR:p<=4096):(kz a b p up).Valid:=by
 unfold kz;split
 .exact oO
 .exact nQ _ _ _ _ _ _ hp dR
theorem AV(x y:Iv)(p:Nat)(hx:x.Valid)(hy:y.Valid)(dW:8<=p)(dR:p<=512):dM 45 [(dQ x),(dQ y),(iP p)] (dQ (e9 x y p)):=by
 by_cases hk:(x.all||y.all)=true
 .exact tr true Tryz.call45 Tryz.func45 (chain [.o 9 (.e (tn _ _):PV.le (.e (.sl true 2 7 fun i_ j_=>(ev x++ev y).getD (i_*7+j_) (.v (.bool false)))) (.e (dY [x,y]))),.c (tk _ _ af af :dM 86 [(dY [x,y])] _),tB 10 (by rw[hk];rfl:(!(x.all||y.all))=false),.c ji]<|rQ (dQ dV) (dQ (e9 x y p)) (by rw[show e9 x y p=dV by unfold e9;rw[aC hk]])) ah 
 .replace hk:(x.all||y.all)=false:=by simpa using hk
  have fW:x.all=false:=by cases h:x.all;rfl;rw[h]at hk;simp at hk
  have uG:y.all=false:=by cases h:y.all;rfl;rw[h]at hk;simp at hk
  obtain⟨v1,v2,v3⟩:=oJ hx fW;obtain⟨v4,v5,v6⟩:=oJ hy uG;exact tr true Tryz.call45 Tryz.func45 (chain [.o 9 (.e (tn _ _):PV.le (.e (.sl true 2 7 fun i_ j_=>(ev x++ev y).getD (i_*7+j_) (.v (.bool false)))) (.e (dY [x,y]))),.c (tk _ _ af af :dM 86 [(dY [x,y])] _),tB 10 (by rw[hk];rfl:(!(x.all||y.all))=true),.c (qy _:dM 87 [(iP p)] _),tB 14 (nf.2 ⟨ ae, ae⟩:(im (p:Int))=true),.c (NX x y p 92 93 (fun a b up=>ff (iE a b) p up) (fun a b up=>fg (iE a b) p up) (fun a b ha hb=>D0 a b p (by rcases ha with rfl|rfl;exact v1;exact v2) (by rcases hb with rfl|rfl;exact v4;exact v5) dW dR) (fun a b ha hb=>D1 a b p (by rcases ha with rfl|rfl;exact v1;exact v2) (by rcases hb with rfl|rfl;exact v4;exact v5) dW dR) (fun a b up=>nQ _ _ _ _ _ _ ae ae))]<|rQ (dQ (ku (fun a b up=>ff (iE a b) p up) (fun a b up=>fg (iE a b) p up) x y)) (dQ (e9 x y p)) (by rw[show e9 x y p=_ by unfold e9;rw[aB (by rw[hk];decide)]];rfl)) ah 
theorem NW(x y:Iv)(p:Nat)(hx:x.Valid)(hy:y.Valid)(dW:8<=p)(dR:p<=512):dM 239 [(dQ x),(dQ y),(iP p)] (dQ (gj x y p)):=by
 by_cases hk:(x.all||y.all)=true
 .exact tr true Tryz.call239 Tryz.func239 (chain [.o 9 (.e (tn _ _):PV.le (.e (.sl true 2 7 fun i_ j_=>(ev x++ev y).getD (i_*7+j_) (.v (.bool false)))) (.e (dY [x,y]))),.c (tk _ _ af af :dM 86 [(dY [x,y])] _),tB 10 (by rw[hk];rfl:(!(x.all||y.all))=false),.c ji]<|rQ (dQ dV) (dQ (gj x y p)) (by rw[show gj x y p=dV by unfold gj;rw[aC (by rw[hk];rfl)]])) ah 
 .replace hk:(x.all||y.all)=false:=by simpa using hk
  have fW:x.all=false:=by cases h:x.all;rfl;rw[h]at hk;simp at hk
  have uG:y.all=false:=by cases h:y.all;rfl;rw[h]at hk;simp at hk
  obtain⟨v1,v2,v3⟩:=oJ hx fW;obtain⟨v4,v5,v6⟩:=oJ hy uG;by_cases hs:jc y=0
  .exact tr true Tryz.call239 Tryz.func239 (chain [.o 9 (.e (tn _ _):PV.le (.e (.sl true 2 7 fun i_ j_=>(ev x++ev y).getD (i_*7+j_) (.v (.bool false)))) (.e (dY [x,y]))),.c (tk _ _ af af :dM 86 [(dY [x,y])] _),tB 10 (by rw[hk];rfl:(!(x.all||y.all))=true),.c (qy _:dM 87 [(iP p)] _),tB 14 (nf.2 ⟨ ae, ae⟩:(im (p:Int))=true),.c (DF y af),tB 20 (by rw[hs];rfl:((jc y)==0)=true),.c ji]<|rQ (dQ dV) (dQ (gj x y p)) (by rw[show gj x y p=dV by unfold gj;rw[aC (by rw[hk,aE hs];rfl)]])) ah 
  .obtain ⟨n1,n2⟩:=ael hy hs
   exact tr true Tryz.call239 Tryz.func239 (chain [.o 9 (.e (tn _ _):PV.le (.e (.sl true 2 7 fun i_ j_=>(ev x++ev y).getD (i_*7+j_) (.v (.bool false)))) (.e (dY [x,y]))),.c (tk _ _ af af :dM 86 [(dY [x,y])] _),tB 10 (by rw[hk];rfl:(!(x.all||y.all))=true),.c (qy _:dM 87 [(iP p)] _),tB 14 (nf.2 ⟨ ae, ae⟩:(im (p:Int))=true),.c (DF y af),tB 20 (by simpa using hs:((jc y)==0)=false),.c (NX x y p 236 237 (fun a b up=>kz a b p up) (fun a b up=>mh a b p up) (fun a b ha hb=>Qi a b p (by rcases ha with rfl|rfl;exact v1;exact v2) (by rcases hb with rfl|rfl;exact v4;exact v5) (by rcases hb with rfl|rfl;exact n1;exact n2) dW dR) (fun a b ha hb=>Qj a b p (by rcases ha with rfl|rfl;exact v1;exact v2) (by rcases hb with rfl|rfl;exact v4;exact v5) (by rcases hb with rfl|rfl;exact n1;exact n2) dW dR) (fun a b up=>Vu a b up ae ae))]<|rQ (dQ (ku (fun a b up=>kz a b p up) (fun a b up=>mh a b p up) x y)) (dQ (gj x y p)) (by rw[show gj x y p=_ by unfold gj;rw[aB (by rw[hk,aD hs];decide)]])) ah 
open Go.RowKit Fp Pu
theorem aah(d:RD)(h:d.Zero):dM 137 [(jk d)] (bP true):=by
 obtain⟨h1,h2,h3⟩:=h;exact tr true Tryz.call137 Tryz.func137 (chain [tB 4 (h1:d.neg=false),tB 10 (pk (by rw[h2];rfl):((d.L.length:Int)==0)=true),tB 15 (by rw[h3];rfl:(d.e==0)=true)]<|.nil) ah 
theorem N7(d:RD)(h:¬d.Zero):dM 137 [(jk d)] (bP false):=by
 by_cases h1:d.neg=true
 .exact tr true Tryz.call137 Tryz.func137 (chain [tB 4 (h1:d.neg=true)]<|.nil) ah 
 .replace h1:d.neg=false:=by simpa using h1
  by_cases h2:d.L=[]
  .have h3:¬d.e=0:=fun q=>h ⟨h1,h2,q⟩
   exact tr true Tryz.call137 Tryz.func137 (chain [tB 4 (h1:d.neg=false),tB 10 (pk (by rw[h2];rfl):((d.L.length:Int)==0)=true),tB 15 (by simpa using h3:(d.e==0)=false)]<|.nil) ah 
  .exact tr true Tryz.call137 Tryz.func137 (chain [tB 4 (h1:d.neg=false),tB 10 (ko (fun q=>h2 (List.length_eq_zero_iff.1 q)):((d.L.length:Int)==0)=false)]<|.nil) ah 
theorem aag(x:RI)(g:x.Good)(h:x.Ok):dM 84 [rz x] (bP true):=by
 have:=iS x.iv h.valid;rwa[<-Hr,h.eq g]at this
theorem aae(x:RI)(g:x.Good)(h:¬x.Ok):dM 84 [(rz x)] (bP false):=by
 have ga:=g.lo;have gb:=g.hi;by_cases ha:x.all=true
 .by_cases h1:x.lo.Zero
  .have h2:¬x.hi.Zero:=fun q=>h (.inl ⟨ha,h1,q⟩)
   exact tr true Tryz.call84 Tryz.func84 (chain [tB 5 (ha:x.all=true),.c (aah _ h1:dM 137 [(jk x.lo)] _),.c (N7 _ h2:dM 137 [(jk x.hi)] _)]<|.nil) ah 
  .exact tr true Tryz.call84 Tryz.func84 (chain [tB 5 (ha:x.all=true),.c (N7 _ h1:dM 137 [(jk x.lo)] _)]<|.nil) ah 
 .replace ha:x.all=false:=by simpa using ha
  by_cases h1:x.lo.Ok
  .by_cases h2:x.hi.Ok
   .have h3:¬ew x.lo.dy x.hi.dy<=0:=fun q=>h (.inr ⟨ha,h1,h2,q⟩)
    have v1:=h1.valid;have v2:=h2.valid;have e1:rz x=dQ x.iv:=by rw[<-Hr,show x.iv.raw=x by show RI.mk x.lo.dy.raw x.hi.dy.raw x.all=x;rw[h1.eq ga,h2.eq gb]]
    rw[e1];exact tr true Tryz.call84 Tryz.func84 (chain [tB 5 (ha:x.iv.all=false),.c (lK _ af :dM 68 [(dP x.iv.lo)] _),.c (lK _ af :dM 68 [(dP x.iv.hi)] _),.c (gU _ _ af af :dM 37 [(dP x.iv.lo),(dP x.iv.hi)] _),tB 30 (aD h3)]<|.nil) ah 
   .exact tr true Tryz.call84 Tryz.func84 (chain [tB 5 (ha:x.all=false),.c (vC _ af true (by simp[h1]):dM 68 [(jk x.lo)] _),.c (vC _ af false (by simp[h2]):dM 68 [(jk x.hi)] _)]<|.nil) ah 
  .exact tr true Tryz.call84 Tryz.func84 (chain [tB 5 (ha:x.all=false),.c (vC _ af false (by simp[h1]):dM 68 [(jk x.lo)] _)]<|.nil) ah 
theorem aaf(x:RI)(g:x.Good):dM 84 [rz x] (bP (okB x)):=by
 by_cases h:x.Ok
 .rw [tD.2 h];exact aag x g h
 .rw [show okB x=false by simpa using fun q=>h (tD.1 q)];exact aae x g h
open Go.RowKit Fp Pu
abbrev fA(xs:List Iv):Nat->Nat->E:=fun i j=>(ev (xs.getD i dV)).getD j .any
theorem yz(x:Iv)(j:Nat)(hj:j<7):((ev x).getD j .any).nr 2=true:=by
 rcases j with _|_|_|_|_|_|_|j
 all_goals first|rfl|omega
theorem aam{T n:Nat}{xs:List Iv}{y:Iv}(hn:n=xs.length):
 Bx.le (.row true T (n+[y].length) 7 fun i j=>if i<n then fA xs i j else(E.mi (dY [y])) (i-n) j) (.row true T (xs++[y]).length 7 (fA (xs++[y]))):=by
 subst hn;refine .row aj fun i j hi hj=>⟨.of_eq ?_,yz _ _ hj⟩
 by_cases h:i<xs.length
 .rw [aC h]
  show(ev (xs.getD i dV)).getD j .any=(ev ((xs++[y]).getD i dV)).getD j .any;congr 2;simp[aF,du h]
 .have kx:i=xs.length:=by simp at hi;omega
  subst kx;rw[aB h,cW];show(ev y).getD j .any=(ev ((xs++[y]).getD xs.length dV)).getD j .any;congr 2;simp[aF]
theorem tG{α:Type}(y:α):[y].length=1:=rfl
theorem IW{n i:Nat}{F:Nat->Iv}(h:i<n):((List.range n).map F).getD i dV=F i:=by
 simp[aF,h]
end Go.Proofs.YtdgnpeddgdclhaaGreatDoor
namespace Go.Proofs.YtdgnpeddgdclhaaGreatDoor.Fp
section
variable {a b:Dy} {k:Int}
end
theorem XA{m gm p:Nat}{e ge K:Int}(hp:1<=p)(hg:dU gm<=p)(mA:-16384<=ge)(k1:K<=e)(k2:K<=ge)
 (h:gm*2^(ge-K).toNat<=m*2^(e-K).toNat):gm*2^(ge-K).toNat<=fT m e false p false*2^(e+ey m e p-K).toNat:=by
 have hq:fT m e false p false=m/2^ey m e p:=by unfold fT;simp
 rw[hq];have hm:=bM m (2^ey m e p);have hr:=aS m (aJ (n:=ey m e p) ( ag :0<2));obtain⟨k,hk⟩:∃ k,k=ey m e p:=⟨_,rfl⟩
 rw[<-hk]at hm hr ⊢;have e1:(e+(k:Int)-K).toNat=k+(e-K).toNat:= ae ;rw[e1,aH];generalize hE:2^(e-K).toNat=E at *
 have F9:0<E:=by rw[<-hE];exact aJ ag 
 have hmE:m*E<(m/2^k+1)*(2^k*E):=by
  rw[<-aP];refine ca ?_ F9;rw[aO,aK,aQ];omega
 by_cases hc:e+k<=ge
 .
  have e2:(ge-K).toNat=(ge-(e+k)).toNat+(k+(e-K).toNat):= ae ;rw[e2,aH,aH 2 k,hE]at h ⊢;rw[<-aP]at h ⊢;generalize gm*2^(ge-(e+k)).toNat=g at *
  have:g<m/2^k+1:=by
   apply bh;intro h';have:=a6 (2^k*E) (show m/2^k+1<=g by omega);omega
  exact a6 _ ae 
 .by_cases nT:k=0
  .subst nT
   rw[bG,agy,aK];exact h
  .
   have hb:(dU m:Int)-p=k:=by unfold ey at hk;omega
   have Aw:m≠0:=by intro h0;rw[h0]at hb;simp[dU]at hb;omega
   have h1:=oh Aw;have h2:2^(dU m-1-k)<=m/2^k:=by
    rw[ct (aJ ag),<-aH];exact aI (aR ag (by have:=jK Aw;omega)) h1
   have h3:gm<2^p:=gS.1 hg;refine aI (a6 _ (cJ h3)) (aI ?_ (a6 _ h2));rw[<-hE,<-aH,<-aH,<-aH];exact aR ag ae 
theorem Ml{m gm p:Nat}{e ge K:Int}(hp:1<=p)(hg:dU gm<=p)(mA:-16384<=ge)(k1:K<=e)(k2:K<=ge)
 (h:m*2^(e-K).toNat<=gm*2^(ge-K).toNat):fT m e false p true*2^(e+ey m e p-K).toNat<=gm*2^(ge-K).toNat:=by
 have Nk:fT m e false p false=m/2^ey m e p:=by unfold fT;simp
 have AG:fT m e false p true=m/2^ey m e p+if m%2^ey m e p≠0 then 1 else 0:=by unfold fT;simp
 have hm:=bM m (2^ey m e p);obtain⟨k,hk⟩:∃ k,k=ey m e p:=⟨_,rfl⟩
 rw[AG];rw[<-hk]at hm ⊢;have e1:(e+(k:Int)-K).toNat=k+(e-K).toNat:= ae ;rw[e1,aH];generalize hE:2^(e-K).toNat=E at *
 have F9:0<E:=by rw[<-hE];exact aJ ag 
 by_cases hr:m%2^k=0
 .rw [aB ae,bd,<-aP]
  refine aI (Nat.le_of_eq ?_) h;congr 1;rw[aQ];omega
 .rw [aC hr]
  have nT:k≠0:=by intro h0;rw[h0,bG,cF]at hr;exact hr rfl
  have ek:m/2^k*(2^k*E)<gm*2^(ge-K).toNat:=by
   refine a7 ?_ h;rw[<-aP];refine ca ?_ F9;rw[aQ];omega
  by_cases hc:e+k<=ge
  .have e2:(ge-K).toNat=(ge-(e+k)).toNat+(k+(e-K).toNat):= ae 
   have e3:gm*2^(ge-K).toNat=gm*2^(ge-(e+k)).toNat*(2^k*E):=by rw[e2,aH,aH 2 k,hE,aP]
   rw[e3]at ek ⊢;generalize gm*2^(ge-(e+k)).toNat=g at *
   have:m/2^k<g:=Nat.lt_of_mul_lt_mul_right ek;exact a6 _ this
  .
   exfalso;have hb:(dU m:Int)-p=k:=by unfold ey at hk;omega
   have Aw:m≠0:=by intro h0;rw[h0]at hr;simp at hr
   have h1:=oh Aw;have C4:=jK Aw;have h3:gm<2^p:=gS.1 hg;have h4:gm*2^(ge-K).toNat<=2^(dU m-1)*E:=by
    refine aI (a6 _ (cJ h3)) ?_;rw[<-hE,<-aH,<-aH];exact aR ag ae 
   have h5:2^(dU m-1-k)<=m/2^k:=by
    rw[ct (aJ ag),<-aH];exact aI (aR ag ae) h1
   have h6:2^(dU m-1)*E<=m/2^k*(2^k*E):=by
    rw[<-aP];refine a6 _ ?_;have:=a6 (2^k) h5;rw[<-aH]at this;exact aI (aR ag ae) this
   omega
def P2(k:Int):Rat:=(2:Rat)^k
theorem jr(k:Int):0<P2 k:=Rat.zpow_pos ag 
theorem lG(a b:Int):P2 (a+b)=P2 a*P2 b:=Rat.zpow_add ag a b
theorem rI(n:Nat):P2 (n:Int)=((2^n:Nat):Rat):=by unfold P2;rw[Rat.zpow_natCast];simp
theorem Ca:P2 0=1:=by have:=rI 0;simpa using this
theorem zj{e k:Int}(h:k<=e):P2 e=((2^(e-k).toNat:Nat):Rat)*P2 k:=by
 rw[<-rI,<-lG];congr 1;omega
theorem qC{x y:Rat}(k:Int):x*P2 k<=y*P2 k↔x<=y:=
 ⟨fun h=>agU h (jr k),fun h=>bJ h (aZ (jr k))⟩
theorem pN{m n:Nat}{e f K:Int}(h1:K<=e)(h2:K<=f):(m:Rat)*P2 e<=(n:Rat)*P2 f↔m*2^(e-K).toNat<=n*2^(f-K).toNat:=by
 rw[zj h1,zj h2,<-dB,<-dB,qC,<-cA,<-cA,cK]
def Dy.q(d:Dy):Rat:=((d.num d.e:Int):Rat)*P2 d.e
theorem sy{d:Dy}{k:Int}(h:mw d k):d.q=((d.num k:Int):Rat)*P2 k:=by
 unfold Dy.q;rcases h with h|h
 .rw [qE h,qE h];simp
 .rw [DS h (bI _),zj h,<-dB,Rat.intCast_mul,dc]
theorem ke(a b:Dy):ew a b<=0↔a.q<=b.q:=by
 obtain⟨k,ka,kb⟩:∃ k:Int,k<=a.e/\k<=b.e:=⟨min a.e b.e, ae, ae⟩
 rw[le_iff (.inr ka) (.inr kb),sy (.inr ka),sy (.inr kb),qC,aha]
theorem IQ(a b:Dy):(ep a b).q=a.q+b.q:=by
 obtain⟨k,ka,kb⟩:∃ k:Int,k<=a.e/\k<=b.e:=⟨min a.e b.e, ae, ae⟩
 rw[sy (Cc (.inr ka) (.inr kb)),sy (.inr ka),sy (.inr kb),En (.inr ka) (.inr kb),Rat.intCast_add,Rat.add_mul]
theorem iB(a:Dy):(eD a).q = -a.q:=by
 rw[sy (ER (.inr (bI a.e))),Iw,Rat.intCast_neg,Rat.neg_mul];rfl
theorem mQ(s:Bool)(m:Nat)(e:Int):(canon s m e).q=if s then -((m:Rat)*P2 e)else(m:Rat)*P2 e:=by
 rw[sy (ue (bI e)),wI (bI e)];have:(e-e).toNat=0:= ae ;rw[this];cases s<;>simp[Rat.intCast_neg,Rat.neg_mul,dc]
theorem lW(a:Dy):a.q=if a.neg then -((a.m:Rat)*P2 a.e)else(a.m:Rat)*P2 a.e:=by
 unfold Dy.q Dy.num Dy.fm;have:(a.e-a.e).toNat=0:= ae ;rw[this];cases a.neg<;>simp[Rat.intCast_neg,Rat.neg_mul,dc]
theorem qG(a b:Dy):(rq a b).q=a.q*b.q:=by
 unfold rq;rw[mQ,lW a,lW b,lG,cA];cases a.neg<;>cases b.neg<;>simp<;>grind
theorem pR:eW.q=0:=by rw[lW];simp[eW]
theorem ab7{a b:Dy}(ha:a.Canon)(hb:b.Canon)(h:a.q=b.q):a=b:=by
 obtain⟨k,ka,kb⟩:∃ k:Int,k<=a.e/\k<=b.e:=⟨min a.e b.e, ae, ae⟩
 refine LD ha hb (.inr ka) (.inr kb) ?_;rw[sy (.inr ka),sy (.inr kb)]at h;have h1:=(qC (x:=((a.num k:Int):Rat)) (y:=((b.num k:Int):Rat)) k).1 (by rw[h];exact bw);have h2:=(qC (x:=((b.num k:Int):Rat)) (y:=((a.num k:Int):Rat)) k).1 (by rw[h];exact bw);rw[aha]at h1 h2;omega
theorem uT(n:Int):(er n).q=(n:Rat):=by
 unfold er;rw[sy (k:=0) (EP (bI 0)),Iu (bI 0),Ca];simp
theorem tJ(d:Dy):0<=(ij d).q/\d.q<=(ij d).q /\ -d.q<=(ij d).q/\((ij d).q=d.q\/(ij d).q = -d.q):=by
 have h:(ij d).q=(d.m:Rat)*P2 d.e:=by rw[lW];rfl
 have h0:0<=(d.m:Rat)*P2 d.e:=bk (cj) (aZ (jr _));rw[h,lW d];cases d.neg<;>simp<;>grind
theorem kp(d:Dy):(0<d.sign↔0<d.q)/\(d.sign<0↔d.q<0):=by
 have h:=jr d.e;have hm:d.m≠0->0<(d.m:Rat)*P2 d.e:=fun h0=>de (ahb.2 ae) h
 rw[lW];unfold Dy.sign;by_cases h0:d.m=0
 .simp [h0]
 .have:=hm h0
  rw[aB h0];cases d.neg<;>simp<;>grind
theorem By(a b:Dy):a.q<=(maxD a b).q/\b.q<=(maxD a b).q/\((maxD a b).q=a.q\/(maxD a b).q=b.q):=
 ⟨(ke _ _).1 (yH a b),(ke _ _).1 (OI a b),by unfold maxD;split;exact .inr rfl;exact .inl rfl⟩
theorem wN(a b:Dy):(minD a b).q<=a.q/\(minD a b).q<=b.q/\((minD a b).q=a.q\/(minD a b).q=b.q):=
 ⟨(ke _ _).1 (A9 a b),(ke _ _).1 (OJ a b),by unfold minD;split;exact .inr rfl;exact .inl rfl⟩
def GM(p:Nat)(g:Rat):Prop:=∃ (m:Nat) (e:Int),dU m<=p /\ -16384<=e/\(dU m:Int)+e<=16384/\g=(m:Rat)*P2 e
def G(p:Nat)(g:Rat):Prop:=GM p g\/GM p (-g)
theorem GM.Bl{p:Nat}{g:Rat}(h:GM p g):0<=g:=by
 obtain⟨m,e,_,_,_,rfl⟩:=h;exact bk (cj) (aZ (jr _))
theorem sD(p:Nat):GM p 0:=⟨0,0,by simp[nP], ae,by simp[nP], aj⟩
theorem G.neg{p:Nat}{g:Rat}(h:G p g):G p (-g):=by
 rcases h with h|h
 .exact .inr (by rw[Rat.neg_neg];exact h)
 .exact .inl h
theorem G.pos{p:Nat}{g:Rat}(h:G p g)(h0:0<=g):GM p g:=by
 rcases h with h|h
 .exact h
 .have:=h.Bl
  have:g=0:= aq ;rw[this];exact sD p
theorem KG(k:Nat):dU (2^k)=k+1:=qQ (aG _) (ag8 ag ae)
theorem rM:dU 1=1:=KG 0
section
variable {m p:Nat} {e:Int}
theorem RF(hp:1<=p)(dR:p<=4096)(ho:gX m e false p false=true):
 GM p (((2^p-1:Nat):Rat)*P2 (16384-p))/\((2^p-1:Nat):Rat)*P2 (16384-p)<=(m:Rat)*P2 e/\∀ g,GM p g->g<=((2^p-1:Nat):Rat)*P2 (16384-p):=by
 have rj:2<=2^p:=by
  have:=aR (n:=2) ag hp;omega
 have hb:dU (2^p-1)=p:=by
  obtain⟨j,rfl⟩:∃ j,p=j+1:=⟨p-1, ae⟩
  have h2:2^(j+1)=2^j*2:=aN _ _;have h3:=aJ (n:=j) ( ag :0<2);exact qQ ae ae 
 refine⟨⟨_,_,Nat.le_of_eq hb, ae, ae,rfl⟩,?_,?_⟩
 .obtain ⟨c1,c2⟩:=Cz m e p
  unfold gX at ho;simp only[aX,bF]at ho;obtain⟨o1,o2⟩:=ho;have hq:=oh o1;have C4:=jK o1;obtain⟨K,k1,k2⟩:∃ K:Int,K<=e/\K<=16384-p:=⟨min e (16384-p), ae, ae⟩
  rw[pN k2 k1];have h1:2^(dU (fT m e false p false)-1)*2^ey m e p<=m:=aI (a6 _ hq) c1;have h2:=a6 (2^(e-K).toNat) h1;rw[<-aH,<-aH]at h2;refine aI (a6 _ (cI _ _)) (aI ?_ h2);rw[<-aH];exact aR ag ae 
 .rintro g ⟨gm,ge,b1,b2,b3,rfl⟩
  by_cases hc:ge<=16384-p
  .have:gm<2^p:=gS.1 b1
   rw[pN (K:=ge) (bI _) hc];have e0:(ge-ge).toNat=0:= ae ;rw[e0,bG,bD];exact aI (show gm<=2^p-1 by omega) (ahe _ (aJ ag))
  .rw [pN (K:=16384-p) ae (bI _)]
   have e0:((16384:Int)-p-(16384-p)).toNat=0:= ae ;rw[e0,bG,bD];have h1:gm<2^(16384-ge).toNat:=by
    by_cases h0:gm=0
    .rw [h0];exact aJ ag 
    .exact gS.1 ae 
   have h2:=ca h1 (aJ (n:=(ge-(16384-p)).toNat) ( ag :0<2));by_cases hg:ge<=16384
   .rw [<-aH,show(16384-ge).toNat+(ge-(16384-(p:Int))).toNat=p by omega]at h2
    omega
   .have:gm=0:=by
     rw[show(16384-ge).toNat=0 by omega]at h1;simpa using h1
    rw[this,bS];omega
theorem RE(hp:1<=p)(ho:¬gX m e false p false=true):
 GM p (((fT m e false p false:Nat):Rat)*P2 (e+ey m e p))/\((fT m e false p false:Nat):Rat)*P2 (e+ey m e p)<=(m:Rat)*P2 e /\
 ∀ g,GM p g->g<=(m:Rat)*P2 e->g<=((fT m e false p false:Nat):Rat)*P2 (e+ey m e p):=by
 obtain⟨c1,c2⟩:=Cz m e p;have hk:-16384<=e+(ey m e p:Int):=by unfold ey;omega
 refine⟨?_,?_,?_⟩
 .by_cases h0:fT m e false p false=0
  .rw [h0];simpa using sD p
  .have hq:fT m e false p false<2^p:=by
    have:=Lr m e p;unfold fT;simpa using this
   unfold gX at ho;simp only[ne_eq,h0,dI,decide_true,agT,bF]at ho;exact⟨_,_,gS.2 hq,hk, ae,rfl⟩
 .rw [pN (K:=e) ae (bI _)]
  rw[show(e-e).toNat=0 by omega,show(e+(ey m e p:Int)-e).toNat=ey m e p by omega,bG,bD];exact c1
 .rintro g ⟨gm,ge,b1,b2,b3,rfl⟩ h
  obtain⟨K,k1,k2⟩:∃ K:Int,K<=e/\K<=ge:=⟨min e ge, ae, ae⟩
  rw[pN k2 k1]at h;rw[pN (K:=K) k2 ae];exact XA hp b1 b2 k1 k2 h
theorem KV(hp:1<=p)(ho:gX m e false p true=true)(g:Rat)(hg:GM p g):¬(m:Rat)*P2 e<=g:=by
 obtain⟨gm,ge,b1,b2,b3,rfl⟩:=hg;intro h;obtain⟨K,k1,k2⟩:∃ K:Int,K<=e/\K<=ge:=⟨min e ge, ae, ae⟩
 rw[pN k1 k2]at h;have h:=Ml hp b1 b2 k1 k2 h;unfold gX at ho;simp only[aX,bF]at ho;obtain⟨o1,o2⟩:=ho;have hq:=oh o1;have C4:=jK o1;have h3:gm<2^dU gm:=mE gm;have h4:=ca h3 (aJ (n:=(ge-K).toNat) ( ag :0<2));have h5:=a6 (2^(e+(ey m e p:Int)-K).toNat) hq;rw[<-aH]at h4 h5;have h6:2^(dU gm+(ge-K).toNat)<=2^(dU (fT m e false p true)-1+(e+(ey m e p:Int)-K).toNat):=aR ag ae;omega
theorem KU(hp:1<=p)(ho:¬gX m e false p true=true):
 GM p (((fT m e false p true:Nat):Rat)*P2 (e+ey m e p))/\(m:Rat)*P2 e<=((fT m e false p true:Nat):Rat)*P2 (e+ey m e p) /\
 ∀ g,GM p g->(m:Rat)*P2 e<=g->((fT m e false p true:Nat):Rat)*P2 (e+ey m e p)<=g:=by
 obtain⟨c1,c2⟩:=Cz m e p;have hk:-16384<=e+(ey m e p:Int):=by unfold ey;omega
 refine⟨?_,?_,?_⟩
 .by_cases h0:fT m e false p true=0
  .rw [h0];simpa using sD p
  .unfold gX at ho
   simp only[ne_eq,h0,dI,decide_true,agT,bF]at ho;rcases Nat.lt_or_eq_of_le (Lc m e false p true)with hq|hq
   .exact ⟨_,_,gS.2 hq,hk, ae,rfl⟩
   .rw [hq]at ho ⊢
    rw[KG]at ho;refine⟨1,p+(e+ey m e p),by rw[rM];exact hp, ae,by rw[rM];omega,?_⟩;rw[lG (p:Int),rI p,show((1:Nat):Rat)=1 from rfl,Rat.one_mul]
 .rw [pN (K:=e) (bI _) ae]
  rw[show(e-e).toNat=0 by omega,show(e+(ey m e p:Int)-e).toNat=ey m e p by omega,bG,bD];exact c2
 .rintro g ⟨gm,ge,b1,b2,b3,rfl⟩ h
  obtain⟨K,k1,k2⟩:∃ K:Int,K<=e/\K<=ge:=⟨min e ge, ae, ae⟩
  rw[pN k1 k2]at h;rw[pN (K:=K) ae k2];exact Ml hp b1 b2 k1 k2 h
end
def Dn(p:Nat)(v:Rat)(D:Dy)(E:Int):Prop:=(E=0->G p D.q/\D.q<=v)/\∀ g,G p g->g<=v->E=0/\g<=D.q
def Up(p:Nat)(v:Rat)(D:Dy)(E:Int):Prop:=(E=0->G p D.q/\v<=D.q)/\∀ g,G p g->v<=g->E=0/\D.q<=g
theorem Dn.of{p:Nat}{v w:Rat}{D:Dy}{E:Int}(h:Dn p v D E)(k:∀ g,G p g->(g<=v↔g<=w)):Dn p w D E:=
 ⟨fun e=>⟨(h.1 e).1,(k _ (h.1 e).1).1 (h.1 e).2⟩,fun g hg hw=>h.2 g hg ((k g hg).2 hw)⟩
theorem Up.of{p:Nat}{v w:Rat}{D:Dy}{E:Int}(h:Up p v D E)(k:∀ g,G p g->(v<=g↔w<=g)):Up p w D E:=
 ⟨fun e=>⟨(h.1 e).1,(k _ (h.1 e).1).1 (h.1 e).2⟩,fun g hg hw=>h.2 g hg ((k g hg).2 hw)⟩
theorem zS(neg:Bool)(m:Nat)(e:Int){p:Nat}(hp:1<=p)(dR:p<=4096):Dn p (canon neg m e).q (fi neg m e false p false) (eU neg m e false p false):=by
 have hv:0<=(m:Rat)*P2 e:=bk (cj) (aZ (jr _));rw[mQ];cases neg
 .
  have hE:eU false m e false p false=0:=by unfold eU;simp
  rw[hE];unfold fi;simp only[bne_self_eq_false,aT,aL];by_cases ho:gX m e false p false=true
  .obtain ⟨t1,t2,t3⟩:=RF hp dR ho
   rw[aC ho];(first|unfold Dn|unfold Up);rw[mQ];simp only[aT,aL];refine⟨fun _=>⟨.inl t1,t2⟩,fun g hg hle=>⟨trivial,?_⟩⟩;by_cases h0:0<=g
   .exact t3 g (hg.pos h0)
   .have:=t1.Bl;grind
  .obtain ⟨t1,t2,t3⟩:=RE hp ho
   rw[aB ho];(first|unfold Dn|unfold Up);rw[mQ];simp only[aT,aL];refine⟨fun _=>⟨.inl t1,t2⟩,fun g hg hle=>⟨trivial,?_⟩⟩;by_cases h0:0<=g
   .exact t3 g (hg.pos h0) hle
   .have:=t1.Bl;grind
 .unfold fi eU
  simp only[Bool.bne_false,Bool.and_true,aW];by_cases ho:gX m e false p true=true
  .rw [aC ho,aC ho]
   refine⟨fun h=>by simp at h,fun g hg hle=>?_⟩;exact absurd (show(m:Rat)*P2 e <= -g by grind) (KV hp ho _ (hg.neg.pos aq))
  .obtain ⟨t1,t2,t3⟩:=KU hp ho
   rw[aB ho,aB ho];(first|unfold Dn|unfold Up);rw[mQ];simp only[aW];refine⟨fun _=>⟨.inr (by rw[Rat.neg_neg];exact t1), aq⟩,fun g hg hle=>⟨trivial,?_⟩⟩;have:=t3 (-g) (hg.neg.pos aq) aq 
   grind
theorem zT(neg:Bool)(m:Nat)(e:Int){p:Nat}(hp:1<=p)(dR:p<=4096):Up p (canon neg m e).q (fi neg m e false p true) (eU neg m e false p true):=by
 have hv:0<=(m:Rat)*P2 e:=bk (cj) (aZ (jr _));rw[mQ];cases neg
 .unfold fi eU
  simp only[Bool.bne_true,cV,Bool.and_true,aW,aT,aL];by_cases ho:gX m e false p true=true
  .rw [aC ho,aC ho]
   refine⟨fun h=>by simp at h,fun g hg hle=>?_⟩;exact absurd hle (KV hp ho _ (hg.pos aq))
  .obtain ⟨t1,t2,t3⟩:=KU hp ho
   rw[aB ho,aB ho];(first|unfold Dn|unfold Up);rw[mQ];simp only[aT,aL];exact⟨fun _=>⟨.inl t1,t2⟩,fun g hg hle=>⟨trivial,t3 g (hg.pos aq) hle⟩⟩
 .have hE:eU true m e false p true=0:=by unfold eU;simp
  rw[hE];unfold fi;simp only[bne_self_eq_false,aT,aL,aW];by_cases ho:gX m e false p false=true
  .obtain ⟨t1,t2,t3⟩:=RF hp dR ho
   rw[aC ho];(first|unfold Dn|unfold Up);rw[mQ];simp only[aW];refine⟨fun _=>⟨.inr (by rw[Rat.neg_neg];exact t1), aq⟩,fun g hg hle=>⟨trivial,?_⟩⟩;by_cases h0:0 <= -g
   .have:=t3 (-g) (hg.neg.pos h0);grind
   .have:=t1.Bl;grind
  .obtain ⟨t1,t2,t3⟩:=RE hp ho
   rw[aB ho];(first|unfold Dn|unfold Up);rw[mQ];simp only[aW];refine⟨fun _=>⟨.inr (by rw[Rat.neg_neg];exact t1), aq⟩,fun g hg hle=>⟨trivial,?_⟩⟩;by_cases h0:0 <= -g
   .have:=t3 (-g) (hg.neg.pos h0) aq;grind
   .have:=t1.Bl;grind
theorem po{d:Dy}(hd:d.Canon){p:Nat}(hp:1<=p)(dR:p<=4096):Dn p d.q (ff d p false) (fg d p false):=by
 have:=zS d.neg d.m d.e hp dR;rwa[hd.xn]at this
theorem pS{d:Dy}(hd:d.Canon){p:Nat}(hp:1<=p)(dR:p<=4096):Up p d.q (ff d p true) (fg d p true):=by
 have:=zT d.neg d.m d.e hp dR;rwa[hd.xn]at this
theorem F2{N p:Nat}{e:Int}(hb:p<dU N){g:Rat}(hg:GM p g):g<=(N:Rat)*P2 e\/((N+1:Nat):Rat)*P2 e<=g:=by
 obtain⟨gm,ge,b1,b2,b3,rfl⟩:=hg;by_cases hc:e<=ge
 .rw [pN (K:=e) hc (bI _),pN (K:=e) (bI _) hc,show(e-e).toNat=0 by omega]
  omega
 .left
  rw[pN (K:=ge) (bI _) ae,show(ge-ge).toNat=0 by omega,bG,bD];have h1:gm<2^p:=gS.1 b1;have h2:2^p<=N:=pM.1 hb;exact aI (cJ (a7 h1 h2)) (ahe _ (aJ ag))
theorem KF{N p:Nat}{e:Int}(hb:p<dU N){x y:Rat}(x1:(N:Rat)*P2 e<x)(x2:x<((N+1:Nat):Rat)*P2 e)(y1:(N:Rat)*P2 e<y)(y2:y<((N+1:Nat):Rat)*P2 e){g:Rat}(hg:G p g):
 (g<=x↔g<=y)/\(x<=g↔y<=g)/\(g <= -x↔g <= -y)/\(-x<=g ↔ -y<=g):=by
 have hv:0<=(N:Rat)*P2 e:=bk (cj) (aZ (jr _));have hG:∀ g,G p g->g<=(N:Rat)*P2 e\/((N+1:Nat):Rat)*P2 e<=g:=by
  intro g hg;by_cases h0:0<=g
  .exact F2 hb (hg.pos h0)
  .left;grind
 have h1:=hG g hg;have h2:=hG (-g) hg.neg;generalize (N:Rat)*P2 e=A at *
 generalize ((N+1:Nat):Rat)*P2 e=B at *
 refine⟨?_,?_,?_,?_⟩<;>constructor<;>intro h<;>grind
theorem xx{N p:Nat}(E:Int)(hb:p<dU N)(neg up:Bool):fi neg N E true p up=fi neg (2*N+1) (E-1) false p up/\eU neg N E true p up=eU neg (2*N+1) (E-1) false p up:=by
 have h1:(2*N+1)/2^1=N:= ae ;have h:=Cy (N:=2*N+1) (E:=E-1) (more:=false) (d:=1) (p:=p) neg up (by rw[h1];exact hb);have h2:decide ((2*N+1)%2^1≠0)=true:= aj ;rw[h1,h2,show E-1+((1:Nat):Int)=E by omega]at h;exact h
theorem Lq{a b:Dy}(b0:b.m≠0){p:Nat}(hp:1<=p)(dR:p<=4096):Dn p (a.q/b.q) (kz a b p false) (mh a b p false)/\Up p (a.q/b.q) (kz a b p true) (mh a b p true):=by
 by_cases a0:a.m=0
 .have hq:a.q=0:=by rw[lW,a0];simp
  have h0:(0:Rat)/b.q=0:=by rw[b9,Rat.zero_mul]
  unfold kz mh;rw[hq,h0,aC a0,aC a0,aC a0,aC a0];have hz:G p 0:=.inl (sD p);exact⟨⟨fun _=>⟨by rw[pR];exact hz,by rw[pR];exact bw⟩,fun g _ h=>⟨rfl,by rw[pR];exact h⟩⟩,⟨fun _=>⟨by rw[pR];exact hz,by rw[pR];exact bw⟩,fun g _ h=>⟨rfl,by rw[pR];exact h⟩⟩⟩
 .have hb:=Fy a0 b0 p 2 ag 
  unfold kz mh;rw[aB a0,aB a0,aB a0,aB a0];generalize hk:gw a b p 2=k at *
  generalize hs:(a.neg != b.neg)=s;generalize hE:a.e-b.e-(k:Int)=E0;have hB:(0:Rat)<(b.m:Rat):=ahb.2 ae;have Mt:=jr b.e;have hP:=jr E0;obtain⟨w,hw⟩:∃ w:Rat,w=(a.m:Rat)*P2 a.e/((b.m:Rat)*P2 b.e):=⟨_,rfl⟩
  have NA:w*((b.m:Rat)*P2 b.e)=(a.m:Rat)*P2 a.e:=by
   have:(b.m:Rat)*P2 b.e≠0:=by have:=de hB Mt;grind
   rw[hw];exact cS this
  have gM:a.q/b.q=if s then -w else w:=by
   have Yq:b.q≠0:=by
    have:=de hB Mt;rw[lW b];cases b.neg<;>simp<;>grind
   have hq:(if s then -w else w)*b.q=a.q:=by
    rw[lW a,lW b,<-hs,<-NA];cases a.neg<;>cases b.neg<;>simp<;>grind
   rw[<-hq,Rat.mul_div_cancel Yq]
  have Gv:=bM (a.m*2^k) b.m;have hr:=aS (a.m*2^k) (show 0<b.m by omega);generalize hN:a.m*2^k/b.m=N at *
  generalize hR:a.m*2^k%b.m=R at *
  have Yw:(b.m:Rat)*(N:Rat)+(R:Rat)=(a.m:Rat)*((2^k:Nat):Rat):=by rw[<-cA,<-cA,<-df,Gv]
  have Yd:P2 a.e=((2^k:Nat):Rat)*P2 b.e*P2 E0:=by rw[<-rI,<-lG,<-lG];congr 1;omega
  have Ds:w*(b.m:Rat)=((b.m:Rat)*(N:Rat)+(R:Rat))*P2 E0:=by
   have:w*(b.m:Rat)*P2 b.e=((b.m:Rat)*(N:Rat)+(R:Rat))*P2 E0*P2 b.e:=by
    rw[Yw,dB,NA,Yd];grind
   have fK:P2 b.e≠0:= aq ;have h2:=congrArg (· / P2 b.e) this;simp only[Rat.mul_div_cancel fK]at h2;exact h2
  by_cases h0:R=0
  .have G6:w=(N:Rat)*P2 E0:=by
    rw[h0]at Ds;have fK:(b.m:Rat)≠0:= aq ;have h2:w*(b.m:Rat)=((N:Rat)*P2 E0)*(b.m:Rat):=by rw[Ds];simp;grind
    have h3:=congrArg (· / (b.m:Rat)) h2;simp only[Rat.mul_div_cancel fK]at h3;exact h3
   have hc:a.q/b.q=(canon s N E0).q:=by rw[gM,mQ,G6]
   rw[hc,aD (by simpa using h0)];exact⟨zS _ _ _ hp dR,zT _ _ _ hp dR⟩
  .have rY:(0:Rat)<(R:Rat):=ahb.2 ae 
   have hRb:(R:Rat)<(b.m:Rat):=Rat.natCast_lt_natCast.2 hr;have w1:(N:Rat)*P2 E0<w:=by
    apply Rat.lt_of_mul_lt_mul_right (c:=(b.m:Rat)) _ (aZ hB);rw[Ds];have:=de rY hP
    grind
   have w2:w<((N+1:Nat):Rat)*P2 E0:=by
    apply Rat.lt_of_mul_lt_mul_right (c:=(b.m:Rat)) _ (aZ hB);rw[Ds,df];have:=de (show(0:Rat)<(b.m:Rat)-(R:Rat)by grind) hP;simp
    grind
   have hh:P2 E0=2*P2 (E0-1):=by
    rw[zj (show E0-1<=E0 by omega),show(E0-(E0-1)).toNat=1 by omega];simp
   have v1:(N:Rat)*P2 E0<((2*N+1:Nat):Rat)*P2 (E0-1):=by
    have:=jr (E0-1);rw[hh,df,cA];simp;grind
   have v2:((2*N+1:Nat):Rat)*P2 (E0-1)<((N+1:Nat):Rat)*P2 E0:=by
    have:=jr (E0-1);rw[hh,df,cA,df];simp;grind
   rw[aE (by simpa using h0),(xx E0 hb s false).1,(xx E0 hb s false).2,(xx E0 hb s true).1,(xx E0 hb s true).2,gM];have A:=zS s (2*N+1) (E0-1) hp dR;have B:=zT s (2*N+1) (E0-1) hp dR;rw[mQ]at A B;refine⟨A.of fun g hg=>?_,B.of fun g hg=>?_⟩
   .obtain ⟨k1,k2,k3,k4⟩:=KF hb v1 v2 w1 w2 hg
    cases s
    .exact k1
    .exact k3
   .obtain ⟨k1,k2,k3,k4⟩:=KF hb v1 v2 w1 w2 hg
    cases s
    .exact k2
    .exact k4
def Iv.has(x:Iv)(r:Rat):Prop:=x.all=true\/(x.lo.q<=r/\r<=x.hi.q)
def Sub(x y:Iv):Prop:=y.all=true\/(x.all=false/\y.lo.q<=x.lo.q/\x.hi.q<=y.hi.q)
theorem Sub.refl(x:Iv):Sub x x:=by
 cases h:x.all
 .exact .inr ⟨h,bw,bw⟩
 .exact .inl h
theorem Sub.has{x y:Iv}(h:Sub x y){r:Rat}(k:x.has r):y.has r:=by
 rcases h with h|⟨h1,h2,h3⟩
 .exact .inl h
 .rcases k with k|⟨k1,k2⟩
  .rw [h1]at k;cases k
  .exact .inr ⟨ aq, aq⟩
theorem Sub.known{x y:Iv}(h:Sub x y)(k:y.all=false):x.all=false/\y.lo.q<=x.lo.q/\x.hi.q<=y.hi.q:=by
 rcases h with h|h
 .rw [h]at k;cases k
 .exact h
theorem Iv.Valid.q{x:Iv}(h:x.Valid):x.lo.q<=x.hi.q:=by
 rcases h with⟨_,h2,h3⟩|⟨_,_,_,h⟩
 .rw [h2,h3];exact bw
 .exact (ke _ _).1 h
theorem Iv.Valid.qT{x:Iv}(h:x.Valid):x.lo.Canon/\x.hi.Canon:=by
 rcases h with⟨_,h2,h3⟩|⟨_,h2,h3,_⟩
 .rw [h2,h3];exact⟨oO.canon,oO.canon⟩
 .exact ⟨h2.canon,h3.canon⟩
theorem Iv.Valid.rZ{x:Iv}(h:x.Valid):x.has x.lo.q:=.inr ⟨bw,h.q⟩
theorem Iv.Valid.vH{x:Iv}(h:x.Valid):x.has x.hi.q:=.inr ⟨h.q,bw⟩
structure tZ(p:Nat)(S:Rat->Prop)(X:Iv):Prop where
 has:∀ r,S r->X.has r
 on:X.all=false->G p X.lo.q/\G p X.hi.q
 least:∀ L U,G p L->G p U->(∀ r,S r->L<=r/\r<=U)->X.all=false/\L<=X.lo.q/\X.hi.q<=U
theorem tZ.sub{p:Nat}{S T:Rat->Prop}{X Y:Iv}(h:tZ p S X)(k:tZ p T Y)(hs:∀ r,S r->T r):Sub X Y:=by
 cases hy:Y.all
 .right
  obtain⟨k1,k2⟩:=k.on hy;refine h.least _ _ k1 k2 fun r hr=>?_
  rcases k.has r (hs r hr)with h1|h1
  .rw [hy]at h1;cases h1
  .exact h1
 .exact .inl hy
theorem zB{x y:Iv}(hx:x.Valid)(hy:y.Valid)(xa:x.all=false)(ya:y.all=false){p:Nat}(hp:1<=p)(dR:p<=4096):
 tZ p (fun r=>∃ a b,x.has a/\y.has b/\r=a+b) (fp x y p):=by
 have A:=po (vt hx.qT.1 hy.qT.1) hp dR;have B:=pS (vt hx.qT.2 hy.qT.2) hp dR;rw[IQ]at A B;unfold fp gN;rw[xa,ya];simp only[Bool.or_self,aT,aL];have has:∀ r,(∃ a b,x.has a/\y.has b/\r=a+b)->x.lo.q+y.lo.q<=r/\r<=x.hi.q+y.hi.q:=by
  rintro r ⟨a,b,ha,hb,rfl⟩;rcases ha with ha|ha
  .rw [xa]at ha;cases ha
  .rcases hb with hb|hb
   .rw [ya]at hb;cases hb
   .grind
 have least:∀ L U,G p L->G p U->(∀ r,(∃ a b,x.has a/\y.has b/\r=a+b)->L<=r/\r<=U) ->
  (fg (ep x.lo y.lo) p false=0/\L<=(ff (ep x.lo y.lo) p false).q)/\fg (ep x.hi y.hi) p true=0/\(ff (ep x.hi y.hi) p true).q<=U:=fun L U hL hU h=>
  ⟨A.2 L hL (h _ ⟨_,_,hx.rZ,hy.rZ,rfl⟩).1,B.2 U hU (h _ ⟨_,_,hx.vH,hy.vH,rfl⟩).2⟩
 split
 .rename_i he
  refine⟨fun _ _=>.inl rfl,fun h=>absurd h ag,fun L U hL hU h=>?_⟩;obtain⟨⟨e1,_⟩,e2,_⟩:=least L U hL hU h;rcases he with he|he
  .exact absurd e1 he
  .exact absurd e2 he
 .rename_i he
  obtain⟨a1,a2⟩:=A.1 ae;obtain⟨b1,b2⟩:=B.1 ae;refine⟨fun r hr=>.inr ?_,fun _=>⟨a1,b1⟩,fun L U hL hU h=>?_⟩
  .obtain ⟨h1,h2⟩:=has r hr
   exact⟨aU a2 h1,aU h2 b2⟩
  .obtain ⟨⟨_,e1⟩,_,e2⟩:=least L U hL hU h
   exact⟨rfl,e1,e2⟩
theorem xf{x y:Iv}(p:Nat)(h:x.all=true\/y.all=true):fp x y p=dV:=by
 unfold fp;rw[aC (by rcases h with h|h<;>rw[h]<;>simp)]
theorem sJ{x y:Iv}(hx:x.Valid)(hy:y.Valid){p:Nat}(hp:1<=p)(dR:p<=4096){a b:Rat}(ha:x.has a)(hb:y.has b):(fp x y p).has (a+b):=by
 cases xa:x.all
 .cases ya:y.all
  .exact (zB hx hy xa ya hp dR).has _ ⟨a,b,ha,hb,rfl⟩
  .rw [xf p (.inr ya)];exact .inl rfl
 .rw [xf p (.inl xa)];exact .inl rfl
theorem ET{x y x' y':Iv}(hx:x.Valid)(hy:y.Valid)(jD:x'.Valid)(lP:y'.Valid){p:Nat}(hp:1<=p)(dR:p<=4096)(h:Sub x x')(k:Sub y y'):Sub (fp x y p) (fp x' y' p):=by
 cases xa:x'.all
 .cases ya:y'.all
  .exact (zB hx hy (h.known xa).1 (k.known ya).1 hp dR).sub (zB jD lP xa ya hp dR) fun r ⟨a,b,ha,hb,e⟩=>⟨a,b,h.has ha,k.has hb,e⟩
  .rw [xf p (.inr ya)];exact .inl rfl
 .rw [xf p (.inl xa)];exact .inl rfl
theorem Ph{x x':Iv}(h:Sub x x'):Sub (nG x) (nG x'):=by
 unfold nG;cases xa:x'.all
 .obtain ⟨h1,h2,h3⟩:=h.known xa
  rw[h1];refine .inr ⟨rfl,?_,?_⟩
  .show (eD x'.hi).q<=(eD x.hi).q
   rw[iB,iB];grind
  .show (eD x.lo).q<=(eD x'.lo).q
   rw[iB,iB];grind
 .exact .inl rfl
theorem aeI{x y x' y':Iv}(hx:x.Valid)(hy:y.Valid)(jD:x'.Valid)(lP:y'.Valid){p:Nat}(hp:1<=p)(dR:p<=4096)(h:Sub x x')(k:Sub y y'):Sub (BN x y p) (BN x' y' p):=
 ET hx (yL hy) jD (yL lP) hp dR h (Ph k)
theorem L7{p:Nat}{D:Dy->Dy->Bool->Dy}{E:Dy->Dy->Bool->Int}{f:Rat->Rat->Rat}{x y:Iv}{S:Rat->Prop}
 (hD:∀ a b,(a=x.lo\/a=x.hi)->(b=y.lo\/b=y.hi)->Dn p (f a.q b.q) (D a b false) (E a b false)/\Up p (f a.q b.q) (D a b true) (E a b true)/\S (f a.q b.q))
 (hS:∀ r,S r->(f x.lo.q y.lo.q<=r\/f x.lo.q y.hi.q<=r\/f x.hi.q y.lo.q<=r\/f x.hi.q y.hi.q<=r)/\(r<=f x.lo.q y.lo.q\/r<=f x.lo.q y.hi.q\/r<=f x.hi.q y.lo.q\/r<=f x.hi.q y.hi.q)):
 tZ p S (ku D E x y):=by
 obtain⟨a1,a2,a3⟩:=hD x.lo y.lo (.inl rfl) (.inl rfl);obtain⟨b1,b2,b3⟩:=hD x.lo y.hi (.inl rfl) (.inr rfl);obtain⟨c1,c2,c3⟩:=hD x.hi y.lo (.inr rfl) (.inl rfl);obtain⟨d1,d2,d3⟩:=hD x.hi y.hi (.inr rfl) (.inr rfl);have least:∀ L U,G p L->G p U->(∀ r,S r->L<=r/\r<=U) ->
  ((E x.lo y.lo false=0/\L<=(D x.lo y.lo false).q)/\E x.lo y.lo true=0/\(D x.lo y.lo true).q<=U)/\((E x.lo y.hi false=0/\L<=(D x.lo y.hi false).q)/\E x.lo y.hi true=0/\(D x.lo y.hi true).q<=U) /\
  ((E x.hi y.lo false=0/\L<=(D x.hi y.lo false).q)/\E x.hi y.lo true=0/\(D x.hi y.lo true).q<=U)/\((E x.hi y.hi false=0/\L<=(D x.hi y.hi false).q)/\E x.hi y.hi true=0/\(D x.hi y.hi true).q<=U):=fun L U hL hU h=>
  ⟨⟨a1.2 L hL (h _ a3).1,a2.2 U hU (h _ a3).2⟩,⟨b1.2 L hL (h _ b3).1,b2.2 U hU (h _ b3).2⟩,⟨c1.2 L hL (h _ c3).1,c2.2 U hU (h _ c3).2⟩,⟨d1.2 L hL (h _ d3).1,d2.2 U hU (h _ d3).2⟩⟩
 unfold ku;split
 .rename_i he
  obtain⟨⟨e1,e2⟩,⟨e3,e4⟩,⟨e5,e6⟩,⟨e7,e8⟩⟩:=he;obtain⟨ga,la⟩:=a1.1 e1;obtain⟨gA,lA⟩:=a2.1 e2;obtain⟨gb,lb⟩:=b1.1 e3;obtain⟨gB,lB⟩:=b2.1 e4;obtain⟨gc,lc⟩:=c1.1 e5;obtain⟨gC,lC⟩:=c2.1 e6;obtain⟨gd,ld⟩:=d1.1 e7;obtain⟨gD,lD⟩:=d2.1 e8;obtain⟨m1,m2,m3⟩:=wN (D x.lo y.lo false) (D x.lo y.hi false);obtain⟨m4,m5,m6⟩:=wN (minD (D x.lo y.lo false) (D x.lo y.hi false)) (D x.hi y.lo false);obtain⟨m7,m8,m9⟩:=wN (minD (minD (D x.lo y.lo false) (D x.lo y.hi false)) (D x.hi y.lo false)) (D x.hi y.hi false);obtain⟨n1,n2,n3⟩:=By (D x.lo y.lo true) (D x.lo y.hi true);obtain⟨n4,n5,n6⟩:=By (maxD (D x.lo y.lo true) (D x.lo y.hi true)) (D x.hi y.lo true);obtain⟨n7,n8,n9⟩:=By (maxD (maxD (D x.lo y.lo true) (D x.lo y.hi true)) (D x.hi y.lo true)) (D x.hi y.hi true);generalize (minD (D x.lo y.lo false) (D x.lo y.hi false))=u1 at *
  generalize (minD u1 (D x.hi y.lo false))=u2 at *
  generalize (minD u2 (D x.hi y.hi false))=u3 at *
  generalize (maxD (D x.lo y.lo true) (D x.lo y.hi true))=v1 at *
  generalize (maxD v1 (D x.hi y.lo true))=v2 at *
  generalize (maxD v2 (D x.hi y.hi true))=v3 at *
  refine⟨fun r hr=>.inr ?_,fun _=>⟨?_,?_⟩,fun L U hL hU h=>⟨rfl,?_,?_⟩⟩
  .obtain ⟨h1,h2⟩:=hS r hr
   constructor
   .show u3.q<=r
    rcases h1 with h1|h1|h1|h1<;>grind
   .show r<=v3.q
    rcases h2 with h1|h1|h1|h1<;>grind
  .show G p u3.q
   rcases m9 with h|h
   .rw [h];rcases m6 with h|h
    .rw [h];rcases m3 with h|h<;>rw[h]<;>assumption
    .rw [h];assumption
   .rw [h];assumption
  .show G p v3.q
   rcases n9 with h|h
   .rw [h];rcases n6 with h|h
    .rw [h];rcases n3 with h|h<;>rw[h]<;>assumption
    .rw [h];assumption
   .rw [h];assumption
  .obtain ⟨⟨⟨_,k1⟩,_,k2⟩,⟨⟨_,k3⟩,_,k4⟩,⟨⟨_,k5⟩,_,k6⟩,⟨⟨_,k7⟩,_,k8⟩⟩:=least L U hL hU h
   show L<=u3.q;rcases m9 with h|h
   .rw [h];rcases m6 with h|h
    .rw [h];rcases m3 with h|h<;>rw[h]<;>assumption
    .rw [h];assumption
   .rw [h];assumption
  .obtain ⟨⟨⟨_,k1⟩,_,k2⟩,⟨⟨_,k3⟩,_,k4⟩,⟨⟨_,k5⟩,_,k6⟩,⟨⟨_,k7⟩,_,k8⟩⟩:=least L U hL hU h
   show v3.q<=U;rcases n9 with h|h
   .rw [h];rcases n6 with h|h
    .rw [h];rcases n3 with h|h<;>rw[h]<;>assumption
    .rw [h];assumption
   .rw [h];assumption
 .rename_i he
  refine⟨fun _ _=>.inl rfl,fun h=>absurd h ag,fun L U hL hU h=>?_⟩;obtain⟨⟨⟨k1,_⟩,k2,_⟩,⟨⟨k3,_⟩,k4,_⟩,⟨⟨k5,_⟩,k6,_⟩,⟨⟨k7,_⟩,k8,_⟩⟩:=least L U hL hU h;exact absurd ⟨⟨k1,k2⟩,⟨k3,k4⟩,⟨k5,k6⟩,k7,k8⟩ he
theorem K8{a b c d x y:Rat}(h1:a<=x)(h2:x<=b)(h3:c<=y)(h4:y<=d):
 (a*c<=x*y\/a*d<=x*y\/b*c<=x*y\/b*d<=x*y)/\(x*y<=a*c\/x*y<=a*d\/x*y<=b*c\/x*y<=b*d):=by
 have mono:∀ {u v w:Rat},u<=v->0<=w->u*w<=v*w:=fun h k=>bJ h k
 have anti:∀ {u v w:Rat},u<=v->w<=0->v*w<=u*w:=by
  intro u v w h k;have:=mono h (show 0 <= -w by grind)
  grind
 have side:∀ t:Rat,(t*c<=t*y\/t*d<=t*y)/\(t*y<=t*c\/t*y<=t*d):=by
  intro t;rw[agV t c,agV t d,agV t y];rcases Rat.le_total (a:=0) (b:=t)with h|h
  .exact ⟨.inl (mono h3 h),.inr (mono h4 h)⟩
  .exact ⟨.inr (anti h4 h),.inl (anti h3 h)⟩
 have sa:=side a;have sb:=side b;rcases Rat.le_total (a:=0) (b:=y)with h|h
 .have m1:=mono h1 h
  have m2:=mono h2 h;clear mono anti side;constructor
  .rcases sa.1 with k|k<;>grind
  .rcases sb.2 with k|k<;>grind
 .have m1:=anti h1 h
  have m2:=anti h2 h;clear mono anti side;constructor
  .rcases sb.1 with k|k<;>grind
  .rcases sa.2 with k|k<;>grind
theorem Iv.has.ends{x:Iv}{r:Rat}(h:x.has r)(k:x.all=false):x.lo.q<=r/\r<=x.hi.q:=by
 rcases h with h|h
 .rw [k]at h;cases h
 .exact h
theorem oW(a b:Dy):(rq a b).Canon:=oq _ _ _
theorem Bc{x y:Iv}(hx:x.Valid)(hy:y.Valid)(xa:x.all=false)(ya:y.all=false){p:Nat}(hp:1<=p)(dR:p<=4096):
 tZ p (fun r=>∃ a b,x.has a/\y.has b/\r=a*b) (e9 x y p):=by
 unfold e9;rw[xa,ya];simp only[Bool.or_self,aT,aL];refine L7 (f:=fun a b=>a*b) (fun a b ha hb=>⟨?_,?_,a.q,b.q,?_,?_,rfl⟩) (fun r ⟨a,b,ha,hb,e⟩=>?_)
 .have:=po (oW a b) hp dR;rwa[qG]at this
 .have:=pS (oW a b) hp dR;rwa[qG]at this
 .rcases ha with rfl|rfl;exact hx.rZ;exact hx.vH
 .rcases hb with rfl|rfl;exact hy.rZ;exact hy.vH
 .obtain ⟨h1,h2⟩:=ha.ends xa
  obtain⟨h3,h4⟩:=hb.ends ya;rw[e];exact K8 h1 h2 h3 h4
theorem yK{x y:Iv}(p:Nat)(h:x.all=true\/y.all=true):e9 x y p=dV:=by
 unfold e9;rw[aC (by rcases h with h|h<;>rw[h]<;>simp)]
theorem DM{x y:Iv}(hx:x.Valid)(hy:y.Valid){p:Nat}(hp:1<=p)(dR:p<=4096){a b:Rat}(ha:x.has a)(hb:y.has b):(e9 x y p).has (a*b):=by
 cases xa:x.all
 .cases ya:y.all
  .exact (Bc hx hy xa ya hp dR).has _ ⟨a,b,ha,hb,rfl⟩
  .rw [yK p (.inr ya)];exact .inl rfl
 .rw [yK p (.inl xa)];exact .inl rfl
theorem OV{x y x' y':Iv}(hx:x.Valid)(hy:y.Valid)(jD:x'.Valid)(lP:y'.Valid){p:Nat}(hp:1<=p)(dR:p<=4096)(h:Sub x x')(k:Sub y y'):Sub (e9 x y p) (e9 x' y' p):=by
 cases xa:x'.all
 .cases ya:y'.all
  .exact (Bc hx hy (h.known xa).1 (k.known ya).1 hp dR).sub (Bc jD lP xa ya hp dR) fun r ⟨a,b,ha,hb,e⟩=>⟨a,b,h.has ha,k.has hb,e⟩
  .rw [yK p (.inr ya)];exact .inl rfl
 .rw [yK p (.inl xa)];exact .inl rfl
theorem Hl{b c:Rat}(h0:0<c)(h:c<=b):b⁻¹<=c⁻¹:=by
 have hb:0<b:= aq ;apply agU (c:=b*c) _ (de hb h0);have e1:b⁻¹*(b*c)=c:=by rw[<-dB,ahn _ aq,Rat.one_mul]
 have e2:c⁻¹*(b*c)=b:=by rw[agV b c,<-dB,ahn _ aq,Rat.one_mul]
 rw[e1,e2];exact h
theorem Pj(b:Rat):(-b)⁻¹ = -b⁻¹:=by
 by_cases h:b=0
 .rw [h];simp
 .have h1:(-b)⁻¹*(-b)=1:=ahn _ aq 
  have h2:b⁻¹*b=1:=ahn _ h;have h3:(-b)⁻¹*(-b)*b⁻¹=b⁻¹:=by rw[h1,Rat.one_mul]
  grind
theorem NV{b c:Rat}(h0:b<0)(h:c<=b):b⁻¹<=c⁻¹:=by
 have:=Hl (b:=-c) (c:=-b) aq aq;rw[Pj,Pj]at this
 grind
theorem Jp{y:Iv}(_hy:y.Valid)(h:jc y≠0):y.all=false/\(0<y.lo.q\/y.hi.q<0):=by
 unfold jc at h;cases ya:y.all
 .rw [ya]at h
  simp only[aT,aL]at h;refine⟨rfl,?_⟩;split at h
  .rename_i h1;exact .inl ((kp _).1.1 h1)
  .split at h
   .rename_i h1;exact .inr ((kp _).2.1 h1)
   .exact absurd rfl h
 .rw [ya]at h;simp at h
theorem Ej{y:Iv}(ya:y.all=false)(h:0<y.lo.q\/y.hi.q<0):jc y≠0:=by
 unfold jc;rw[ya];simp only[aT,aL];rcases h with h|h
 .rw [aC ((kp _).1.2 h)];decide
 .split
  .decide
  .rw [aC ((kp _).2.2 h)];decide
theorem aaQ{d:Dy}(h:d.q≠0):d.m≠0:=by
 intro h0;apply h;rw[lW,h0];simp
theorem xA{x y:Iv}(hx:x.Valid)(hy:y.Valid)(xa:x.all=false)(hs:jc y≠0){p:Nat}(hp:1<=p)(dR:p<=4096):
 tZ p (fun r=>∃ a b,x.has a/\y.has b/\r=a/b) (gj x y p):=by
 obtain⟨ya,h0⟩:=Jp hy hs;have hle:=hy.q;unfold gj;rw[xa,ya,aD hs];simp only[Bool.or_self,aT,aL];refine L7 (f:=fun a b=>a/b) (fun a b ha hb=>?_) (fun r ⟨a,b,ha,hb,e⟩=>?_)
 .have b0:b.m≠0:=aaQ (by rcases hb with rfl|rfl<;>grind)
  obtain⟨h1,h2⟩:=Lq (a:=a) b0 hp dR;refine⟨h1,h2,a.q,b.q,?_,?_,rfl⟩
  .rcases ha with rfl|rfl;exact hx.rZ;exact hx.vH
  .rcases hb with rfl|rfl;exact hy.rZ;exact hy.vH
 .obtain ⟨h1,h2⟩:=ha.ends xa
  obtain⟨h3,h4⟩:=hb.ends ya;have i1:y.hi.q⁻¹<=b⁻¹:=by
   rcases h0 with h0|h0
   .exact Hl aq h4
   .exact NV aq h4
  have i2:b⁻¹<=y.lo.q⁻¹:=by
   rcases h0 with h0|h0
   .exact Hl h0 h3
   .exact NV aq h3
  obtain⟨k1,k2⟩:=K8 h1 h2 i1 i2;rw[e];simp only[b9];exact⟨ aq, aq⟩
theorem vy{x y:Iv}(p:Nat)(h:x.all=true\/jc y=0):gj x y p=dV:=by
 unfold gj;rw[aC (by rcases h with h|h<;>rw[h]<;>simp)]
theorem CB{x y:Iv}(hx:x.Valid)(hy:y.Valid){p:Nat}(hp:1<=p)(dR:p<=4096){a b:Rat}(ha:x.has a)(hb:y.has b):(gj x y p).has (a/b):=by
 cases xa:x.all
 .by_cases hs:jc y=0
  .rw [vy p (.inr hs)];exact .inl rfl
  .exact (xA hx hy xa hs hp dR).has _ ⟨a,b,ha,hb,rfl⟩
 .rw [vy p (.inl xa)];exact .inl rfl
theorem Vv{x y x' y':Iv}(hx:x.Valid)(hy:y.Valid)(jD:x'.Valid)(lP:y'.Valid){p:Nat}(hp:1<=p)(dR:p<=4096)(h:Sub x x')(k:Sub y y'):Sub (gj x y p) (gj x' y' p):=by
 cases xa:x'.all
 .by_cases hs:jc y'=0
  .rw [vy p (.inr hs)];exact .inl rfl
  .obtain ⟨ya,h0⟩:=Jp lP hs
   obtain⟨y1,y2,y3⟩:=k.known ya;have oI:jc y≠0:=Ej y1 aq;exact(xA hx hy (h.known xa).1 oI hp dR).sub (xA jD lP xa hs hp dR) fun r ⟨a,b,ha,hb,e⟩=>⟨a,b,h.has ha,k.has hb,e⟩
 .rw [vy p (.inl xa)];exact .inl rfl
theorem wD{x:Iv}(h:x.lo.q<=x.hi.q):x.hi.q<=(iY x).q /\ -x.lo.q<=(iY x).q/\((iY x).q=x.hi.q\/(iY x).q = -x.lo.q):=by
 obtain⟨a1,a2,a3,a4⟩:=tJ x.lo;obtain⟨b1,b2,b3,b4⟩:=tJ x.hi;obtain⟨c1,c2,c3⟩:=By (ij x.lo) (ij x.hi);unfold iY;generalize (maxD (ij x.lo) (ij x.hi)).q=M at *
 refine⟨ aq, aq,?_⟩;rcases c3 with c3|c3
 .rcases a4 with a4|a4
  .grind
  .grind
 .rcases b4 with b4|b4
  .grind
  .grind
theorem aaT{x x':Iv}(hx:x.Valid)(jD:x'.Valid)(h:Sub x x')(xa:x'.all=false):(iY x).q<=(iY x').q:=by
 obtain⟨h1,h2,h3⟩:=h.known xa;obtain⟨a1,a2,a3⟩:=wD hx.q;obtain⟨b1,b2,b3⟩:=wD jD.q
 grind
theorem Ig{x:Iv}(hx:x.Valid)(xa:x.all=false):0<=(j9 x).q/\(x.lo.q<=0->0<=x.hi.q->(j9 x).q=0)/\(0<x.lo.q->(j9 x).q=x.lo.q)/\(x.hi.q<0->(j9 x).q = -x.hi.q):=by
 have hle:=hx.q;obtain⟨a1,a2,a3,a4⟩:=tJ x.lo;obtain⟨b1,b2,b3,b4⟩:=tJ x.hi;obtain⟨c1,c2,c3⟩:=wN (ij x.lo) (ij x.hi);by_cases hs:jc x=0
 .have hn:¬(0<x.lo.q\/x.hi.q<0):=fun h=>Ej xa h hs
  have:j9 x=eW:=by unfold j9;rw[aC hs]
  rw[this,pR];refine⟨bw,fun _ _=>rfl,fun h=>absurd (.inl h) hn,fun h=>absurd (.inr h) hn⟩
 .obtain ⟨_,h0⟩:=Jp hx hs
  have:j9 x=minD (ij x.lo) (ij x.hi):=by unfold j9;rw[aB hs]
  rw[this];generalize (minD (ij x.lo) (ij x.hi)).q=M at *
  generalize (ij x.lo).q=u at *
  generalize (ij x.hi).q=v at *
  refine⟨ aq, aq, aq, aq⟩
theorem Sv{x x':Iv}(hx:x.Valid)(jD:x'.Valid)(h:Sub x x'):Sub (fz x) (fz x'):=by
 cases xa:x'.all
 .obtain ⟨h1,h2,h3⟩:=h.known xa
  unfold fz;rw[h1,xa];refine .inr ⟨rfl,?_,aaT hx jD h xa⟩;show(j9 x').q<=(j9 x).q;obtain⟨a1,a2,a3,a4⟩:=Ig hx h1;obtain⟨b1,b2,b3,b4⟩:=Ig jD xa;have:=hx.q;by_cases c1:0<x'.lo.q
  .rw [b3 c1,a3 aq];exact h2
  .by_cases c2:x'.hi.q<0
   .rw [b4 c2,a4 aq];grind
   .rw [b2 aq aq];exact a1
 .refine .inl ?_
  unfold fz;rw[aC xa];rfl
theorem Cd{x:Iv}(hx:x.Valid){r s:Rat}(h:x.has r)(hs:s=r/\0<=r\/s = -r/\r<=0):(fz x).has s:=by
 unfold fz;cases xa:x.all
 .obtain ⟨h1,h2⟩:=h.ends xa
  obtain⟨a1,a2,a3⟩:=wD hx.q;obtain⟨b1,b2,b3,b4⟩:=Ig hx xa;refine .inr ⟨?_,?_⟩
  .show (j9 x).q<=s
   by_cases c1:0<x.lo.q
   .rw [b3 c1];grind
   .by_cases c2:x.hi.q<0
    .rw [b4 c2];grind
    .rw [b2 aq aq];grind
  .show s<=(iY x).q
   grind
 .exact .inl rfl
theorem IK(d:Dy):(gi d).has d.q:=.inr ⟨bw,bw⟩
theorem tC(n:Int):(eO n).has (n:Rat):=by have:=IK (er n);rwa[uT]at this
def ez(d:Dy)(p:Nat)(up:Bool):Nat->Dy×Int
 | 0=>(ff d p up,fg d p up)
 | k+1=>if(ez d p up k).2≠0 then ez d p up k else(ff (rq (ez d p up k).1 d) p up,fg (rq (ez d p up k).1 d) p up)
def fU(d:Dy)(n p:Nat)(up:Bool):Dy×Int:=if d.sign<0 then(eD (ez (eD d) p (!up) (n-1)).1,(ez (eD d) p (!up) (n-1)).2)else ez d p up (n-1)
def lv(x:Iv)(n:Nat):Iv:=if n%2=0 then fz x else x
def lE(x:Iv)(n p:Nat):Iv:=
 if x.all then dV else if n=0 then gi ⟨false,1,0⟩
 else gN (fU (lv x n).lo n p false).1 (fU (lv x n).lo n p false).2 (fU (lv x n).hi n p true).1 (fU (lv x n).hi n p true).2
def jq(r:Rat):Nat->Rat
 | 0=>1
 | n+1=>jq r n*r
theorem sB{r:Rat}(h:0<=r):∀ n,0<=jq r n
 | 0=>by show(0:Rat)<=1;decide
 | n+1=>bk (sB h n) h
theorem BG{a b:Rat}(h0:0<=a)(h:a<=b):∀ n,jq a n<=jq b n
 | 0=>bw
 | n+1=>by
  have ih:=BG h0 h n;have m1:=bJ ih h0;have m2:=bT h (sB (aU h0 h) n);exact aU m1 m2
theorem wU(r:Rat):∀ n,jq (-r) n=if n%2=0 then jq r n else -jq r n
 | 0=>rfl
 | n+1=>by
  have ih:=wU r n;simp only[jq,ih];have:n%2=0\/n%2=1:= ae ;rcases this with h|h
  .have h':(n+1)%2=1:= ae 
   rw[h,h'];simp;grind
  .have h':(n+1)%2=0:= ae 
   rw[h,h'];simp;grind
theorem Je{a b:Rat}{n:Nat}(hn:n%2=1)(h:a<=b):jq a n<=jq b n:=by
 by_cases h0:0<=a
 .exact BG h0 h n
 .have ea:=wU (-a) n
  rw[Rat.neg_neg,hn]at ea;simp only[Nat.one_ne_zero,aL]at ea;by_cases hb:0<=b
  .have h1:=sB (show 0 <= -a by grind) n
   have h2:=sB hb n
   grind
  .have eb:=wU (-b) n
   rw[Rat.neg_neg,hn]at eb;simp only[Nat.one_ne_zero,aL]at eb;have:=BG (show 0 <= -b by grind) (show -b <= -a by grind) n
   grind
theorem IL{d:Dy}(hd:d.Canon)(h0:0<=d.q){p:Nat}(hp:1<=p)(dR:p<=4096):∀ k,(ez d p false k).2=0->0<=(ez d p false k).1.q/\(ez d p false k).1.q<=jq d.q (k+1)
 | 0,he=>by
  have A:=po hd hp dR;refine⟨(A.2 0 (.inl (sD p)) h0).2,?_⟩;have:=(A.1 he).2;simp only[jq,Rat.one_mul];exact this
 | k+1,he=>by
  by_cases hk:(ez d p false k).2≠0
  .exfalso;simp only[ez,aC hk]at he;exact hk he
  .have nT:(ez d p false k).2=0:= ae 
   obtain⟨i1,i2⟩:=IL hd h0 hp dR k nT;have A:=po (oW (ez d p false k).1 d) hp dR;rw[qG]at A;simp only[ez,aB hk]at he ⊢;refine⟨(A.2 0 (.inl (sD p)) (bk i1 h0)).2,?_⟩;have h1:=(A.1 he).2;have h2:=bJ i2 h0;exact aU h1 h2
theorem yT{d:Dy}(hd:d.Canon)(h0:0<=d.q){p:Nat}(hp:1<=p)(dR:p<=4096):∀ k,(ez d p true k).2=0->jq d.q (k+1)<=(ez d p true k).1.q
 | 0,he=>by
  have A:=pS hd hp dR;have:=(A.1 he).2;simp only[jq,Rat.one_mul];exact this
 | k+1,he=>by
  by_cases hk:(ez d p true k).2≠0
  .exfalso;simp only[ez,aC hk]at he;exact hk he
  .have nT:(ez d p true k).2=0:= ae 
   have i2:=yT hd h0 hp dR k nT;have A:=pS (oW (ez d p true k).1 d) hp dR;rw[qG]at A;simp only[ez,aB hk]at he ⊢;have h1:=(A.1 he).2;have h2:=bJ i2 h0;exact aU h2 h1
theorem VT{d:Dy}(hd:d.Canon){n p:Nat}(hn:1<=n)(hs:0<=d.q\/n%2=1)(hp:1<=p)(dR:p<=4096)(he:(fU d n p false).2=0):(fU d n p false).1.q<=jq d.q n:=by
 unfold fU at he ⊢;by_cases h:d.sign<0
 .rw [aC h]at he ⊢
  have hq:=(kp d).2.1 h;have uB:=hs.resolve_left aq;have:=yT (sr hd) (by rw[iB];grind) hp dR (n-1) he;rw[show n-1+1=n by omega,iB,wU,uB]at this;simp only[Nat.one_ne_zero,aL]at this;show(eD _).q<=_;rw[iB];simp only[cV]
  grind
 .rw [aB h]at he ⊢
  have h0:0<=d.q:=by
   apply cL.1;intro ek;exact h ((kp d).2.2 ek)
  have:=(IL hd h0 hp dR (n-1) he).2;rwa[show n-1+1=n by omega]at this
theorem VU{d:Dy}(hd:d.Canon){n p:Nat}(hn:1<=n)(hs:0<=d.q\/n%2=1)(hp:1<=p)(dR:p<=4096)(he:(fU d n p true).2=0):jq d.q n<=(fU d n p true).1.q:=by
 unfold fU at he ⊢;by_cases h:d.sign<0
 .rw [aC h]at he ⊢
  have hq:=(kp d).2.1 h;have uB:=hs.resolve_left aq;have:=(IL (sr hd) (by rw[iB];grind) hp dR (n-1) he).2;rw[show n-1+1=n by omega,iB,wU,uB]at this;simp only[Nat.one_ne_zero,aL]at this;show _<=(eD _).q;rw[iB];simp only[dr]
  grind
 .rw [aB h]at he ⊢
  have h0:0<=d.q:=by
   apply cL.1;intro ek;exact h ((kp d).2.2 ek)
  have:=yT hd h0 hp dR (n-1) he;rwa[show n-1+1=n by omega]at this
theorem ab4{x:Iv}(hx:x.Valid){n p:Nat}(hp:1<=p)(dR:p<=4096){r:Rat}(h:x.has r):(lE x n p).has (jq r n):=by
 unfold lE;cases xa:x.all
 .simp only[aT,aL]
  by_cases hn:n=0
  .rw [aC hn]
   subst hn;have e:(⟨false,1,0⟩:Dy).q=1:= ar ;refine .inr ⟨?_,?_⟩
   .show (⟨false,1,0⟩:Dy).q<=1
    rw[e];exact bw
   .show 1<=(⟨false,1,0⟩:Dy).q
    rw[e];exact bw
  .rw [aB hn]
   obtain⟨s,hs,pI,Zm⟩:∃ s,(lv x n).has s/\(n%2=0->0<=(lv x n).lo.q/\0<=s)/\jq r n=jq s n:=by
    unfold lv;by_cases lM:n%2=0
    .rw [aC lM]
     have hl:0<=(fz x).lo.q:=by
      unfold fz;rw[xa];show 0<=(j9 x).q;unfold j9;split
      .rw [pR];exact bw
      .obtain ⟨_,_,m⟩:=wN (ij x.lo) (ij x.hi)
       rcases m with m|m<;>rw[m]
       .exact (tJ x.lo).1
       .exact (tJ x.hi).1
     by_cases hr:0<=r
     .exact ⟨r,Cd hx h (.inl ⟨rfl,hr⟩),fun _=>⟨hl,hr⟩,rfl⟩
     .refine ⟨-r,Cd hx h (.inr ⟨rfl, aq⟩),fun _=>⟨hl, aq⟩,?_⟩
      rw[wU,aC lM]
    .rw [aB lM]
     exact⟨r,h,fun q=>absurd q lM,rfl⟩
   have ZA:(lv x n).Valid:=by unfold lv;split;exact zw hx;exact hx
   have ya:(lv x n).all=false:=by
    unfold lv;split
    .unfold fz;rw[xa];rfl
    .exact xa
   rw[Zm];generalize lv x n=y at *
   obtain⟨s1,s2⟩:=hs.ends ya;obtain⟨c1,c2⟩:=ZA.qT;unfold gN;split
   .exact .inl rfl
   .rename_i he
    have uB:¬n%2=0->n%2=1:=fun q=> ae 
    refine .inr ⟨?_,?_⟩
    .refine aU (VT c1 ae ?_ hp dR ae) ?_
     .by_cases lM:n%2=0
      .exact .inl (pI lM).1
      .exact .inr (uB lM)
     .by_cases lM:n%2=0
      .exact BG (pI lM).1 s1 n
      .exact Je (uB lM) s1
    .refine aU ?_ (VU c2 ae ?_ hp dR ae)
     .by_cases lM:n%2=0
      .exact BG (pI lM).2 s2 n
      .exact Je (uB lM) s2
     .by_cases lM:n%2=0
      .exact .inl (aU (pI lM).2 s2)
      .exact .inr (uB lM)
 .rw [aC rfl];exact .inl rfl
end Go.Proofs.YtdgnpeddgdclhaaGreatDoor.Fp
namespace Go.Proofs.YtdgnpeddgdclhaaGreatDoor
open Go.RowKit Fp Pu
structure jh where
 kind:Nat
 a:Nat
 b:Nat
 n:Nat
 cn:Int
 cd:Int
structure mf where
 ins:Nat
 ops:List jh
 outs:List Nat
structure iV where
 tape:mf
 eI:Nat
 params:List Iv
def fc:jh:=⟨0,0,0,0,0,0⟩
def DW(o:jh):List E:=[iP (o.kind:Int),iP (o.a:Int),iP (o.b:Int),iP (o.n:Int),iP o.cn,iP o.cd]
def qF(o:jh):E:=.agg (DW o)
def jR(l:List jh):E:=.sl true l.length 6 fun i j=>(DW (l.getD i fc)).getD j .any
def jQ(l:List Nat):E:=.sl true l.length 1 fun i _=>iP (l.getD i 0:Int)
def afe(t:mf):List E:=[iP (t.ins:Int),jR t.ops,jQ t.outs]
def u7(t:mf):E:=.agg (afe t)
def aeT(s:iV):List E:=[iP (s.tape.ins:Int),jR s.tape.ops,jQ s.tape.outs,iP (s.eI:Int),dY s.params]
def gv(s:iV):E:=.agg (aeT s)
def jb(n d:Int):Bool:=decide (1<=d)&&(decide (d<=1073741824)&&(decide (-1073741824<=n)&&(decide (n<=1073741824)&&decide (Nat.gcd n.natAbs d.natAbs=1))))
theorem IX{n d:Int}(h:jb n d=true):1<=d/\d<=1073741824 /\ -1073741824<=n/\n<=1073741824:=by
 unfold jb at h;simp only[aX,bF]at h;exact⟨h.1,h.2.1,h.2.2.1,h.2.2.2.1⟩
structure jz(o:jh)(m:Nat):Prop where
 k3:o.kind=1\/3<=o.kind
 yB:o.kind<=13
 a:if o.kind=1 then o.a=0 else o.a<m
 b:if 3<=o.kind/\o.kind<=6 then o.b<m else o.b=0
 n:if o.kind=8 then o.n<=16 else o.n=0
 c:if o.kind=1 then jb o.cn o.cd=true else o.cn=0/\o.cd=0
structure w9(t:mf):Prop where
 ins:t.ins<=8
 ops:t.ops.length<=200
 outs:t.outs.length<=200
 op:∀ i,i<t.ops.length->jz (t.ops.getD i fc) (t.ins+i)
 out:∀ i,i<t.outs.length->t.outs.getD i 0<t.ins+t.ops.length
def nk(l:List Iv):Prop:=∀ i,i<l.length->(l.getD i dV).Valid/\(l.getD i dV).all=false
structure kU(s:iV):Prop where
 tape:w9 s.tape
 s1:1<=s.eI
 s4:s.eI<=4
 outs:s.tape.outs.length=s.eI
 ins:s.tape.ins=s.eI+s.params.length
 p4:s.params.length<=4
 params:nk s.params
structure gR(n:Nat)(b:List Iv):Prop where
 len:b.length=n
 ok:nk b
def hasAll(l:List Iv):Bool:=(List.range l.length).any fun i=>(l.getD i dV).all
def gK(h:Dy):Iv:=⟨eW,h,false⟩
def Dz(x f:List Iv)(h:Dy)(p i:Nat):Iv:=fp (x.getD i dV) (e9 (gK h) (f.getD i dV) p) p
def pJ(x f:List Iv)(h:Dy)(p:Nat):List Iv:=(List.range x.length).map (Dz x f h p)
theorem BM{h:Dy}(hv:h.Valid)(h0:0<=h.q):(gK h).Valid:=.inr ⟨rfl,oO,hv,by show ew eW h<=0;rw[ke,pR];exact h0⟩
theorem kq(d:Dy){p:Nat}(hp:1<=p)(dR:p<=4096)(up:Bool):(ff d p up).Valid:=nQ _ _ _ _ _ _ hp dR
theorem tI(d:Dy){p:Nat}(hp:1<=p)(dR:p<=4096)(up:Bool):∀ k,(ez d p up k).1.Valid
 | 0=>kq _ hp dR _
 | k+1=>by
  unfold ez;split
  .exact tI d hp dR up k
  .exact kq _ hp dR _
theorem LH(d:Dy)(n:Nat){p:Nat}(hp:1<=p)(dR:p<=4096)(up:Bool):(fU d n p up).1.Valid:=by
 unfold fU;split
 .exact tA (tI _ hp dR _ _)
 .exact tI _ hp dR _ _
theorem Pv:canon false 1 0=⟨false,1,0⟩:=by
 have h1:(canon false 1 0).neg=false:= ar ;have h2:(canon false 1 0).m=1:= ar ;have h3:(canon false 1 0).e=0:= ar ;generalize canon false 1 0=d at *
 cases d;simp_all
theorem yQ:(⟨false,1,0⟩:Dy).Valid:=by
 have h2:iM (canon false 1 0):= ar ;rw[<-Pv];exact⟨oq _ _ _,h2⟩
theorem ab6{x:Iv}(hx:x.Valid)(n:Nat){p:Nat}(hp:1<=p)(dR:p<=4096):(lE x n p).Valid:=by
 have hh:=ab4 hx (n:=n) hp dR hx.rZ;revert hh;unfold lE;split
 .intro _;exact gZ
 .split
  .intro _;exact pP yQ
  .unfold gN
   split
   .intro _;exact gZ
   .intro hh
    obtain⟨h1,h2⟩:=hh.ends rfl;exact .inr ⟨rfl,LH _ _ hp dR _,LH _ _ hp dR _,(ke _ _).2 (aU h1 h2)⟩
def iO(l:List Iv):Prop:=∀ i,(l.getD i dV).Valid
theorem iO.push{l:List Iv}(h:iO l){y:Iv}(hy:y.Valid):iO (l++[y]):=fun i=>by
 rw[aF,ag1];split
 .have:=h i;rwa[aF]at this
 .rcases i-l.length with _|j
  .exact hy
  .exact gZ
theorem nk.qM{l:List Iv}(h:nk l):iO l:=fun i=>by
 by_cases hi:i<l.length
 .exact (h i hi).1
 .rw [aF,bu ae];exact gZ
theorem iO.append{l r:List Iv}(h:iO l)(k:iO r):iO (l++r):=fun i=>by
 rw[aF,ag1];split
 .have:=h i;rwa[aF]at this
 .have:=k (i-l.length);rwa[aF]at this
theorem Yk{l:List Iv}(h:hasAll l=false)(v:iO l):nk l:=fun i hi=>⟨v i,by simpa using List.any_eq_false.1 h i (bt.2 hi)⟩
theorem ZN{x f:List Iv}{h:Dy}(hx:iO x){p:Nat}(hp:1<=p)(dR:p<=4096)(i:Nat):(Dz x f h p i).Valid:=nN (hx i) (nF _ _ hp dR) hp dR
theorem qw(x f:List Iv)(h:Dy)(p:Nat):(pJ x f h p).length=x.length:=by simp[pJ]
theorem wk{x f:List Iv}{h:Dy}{p i:Nat}(hi:i<x.length):(pJ x f h p).getD i dV=Dz x f h p i:=by
 simp[pJ,aF,hi]
theorem ZP{x f:List Iv}{h:Dy}(hx:iO x){p:Nat}(hp:1<=p)(dR:p<=4096):iO (pJ x f h p):=fun i=>by
 by_cases hi:i<x.length
 .rw [wk hi];exact ZN hx hp dR i
 .rw [aF,bu (by rw[qw];omega)];exact gZ
def nc(a b:List Iv):Bool:=(List.range a.length).all fun i=>sj (a.getD i dV) (b.getD i dV)
def ql(x:Iv)(d:Dy):Bool:=decide (iJ (ep x.lo (eD d))=0)&&decide (iJ (ep x.hi d)=0)
def mj(x:Iv)(d:Dy):Iv:=⟨fS (ep x.lo (eD d)),fS (ep x.hi d),false⟩
def oB(x:List Iv)(d:Dy):Bool:=(List.range x.length).all fun i=>ql (x.getD i dV) d
def mJ(x:List Iv)(d:Dy):List Iv:=if oB x d then(List.range x.length).map fun i=>mj (x.getD i dV) d else[]
def yl(x y:Iv):Iv:=if x.all||y.all then dV else⟨minD x.lo y.lo,maxD x.hi y.hi,false⟩
def gL(x:Iv)(p:Nat):Dy:=ff (ep x.hi (eD x.lo)) p true
def mT(x:Iv)(p:Nat):Int:=fg (ep x.hi (eD x.lo)) p true
theorem Zs{x y:Iv}(hx:x.Valid)(hy:y.Valid):(yl x y).Valid:=by
 unfold yl;cases xa:x.all
 .cases ya:y.all
  .obtain ⟨x1,x2⟩:x.lo.Valid/\x.hi.Valid:=hx.ends
   obtain⟨y1,y2⟩:y.lo.Valid/\y.hi.Valid:=hy.ends;refine .inr ⟨rfl,rn x1 y1,ph x2 y2,?_⟩;rw[ke];have hq:=hx.q;obtain⟨a1,a2,_⟩:=wN x.lo y.lo;obtain⟨b1,b2,_⟩:=By x.hi y.hi
   grind
  .exact gZ
 .exact gZ
theorem XG{x:Iv}(hx:x.Valid){d:Dy}(hd:d.Valid)(h0:0<=d.q)(h:ql x d=true):(mj x d).Valid:=by
 unfold ql at h;rw[aX,bF,bF]at h;obtain⟨h1,h2⟩:=h;have r1:iM (ep x.lo (eD d)):=bh fun q=>by rw[Cv q]at h1;cases h1
 have r2:iM (ep x.hi d):=bh fun q=>by rw[Cv q]at h2;cases h2
 obtain⟨c1,c2⟩:=hx.qT;unfold mj;refine .inr ⟨rfl,KX (vt c1 (tA hd).canon),KX (vt c2 hd.canon),?_⟩;show ew (fS _) (fS _)<=0;rw[vu r1,vu r2,ke,IQ,IQ,iB];have:=hx.q
 grind
theorem XE{x:List Iv}{n:Nat}(hx:gR n x){d:Dy}(hd:d.Valid)(h0:0<=d.q)(h:oB x d=true):gR n (mJ x d):=by
 unfold mJ;rw[aC h];refine⟨by simp[hx.len],fun i hi=>?_⟩;have kx:i<x.length:=by simpa using hi
 have e:((List.range x.length).map fun i=>mj (x.getD i dV) d).getD i dV=mj (x.getD i dV) d:=by simp[aF,kx]
 rw[e];exact⟨XG (hx.ok i kx).1 hd h0 (bg.1 h i (bt.2 kx)),rfl⟩
open Go.RowKit Fp Pu
theorem VF(s:Bool)(L:List Nat)(e:Int)(hk:ej L)(hl:L.length<=256)(gq:-1000000<=e)(fV:e<=1000000):dM 79 [bP s,dO L,iP e] (dP (canon s (val L) e)):=by
 refine⟨Tryz.call79,fun w B vs hK hB hr=>?_⟩;obtain⟨v1,vs,rfl,h1,hr⟩:=hr.iw;obtain⟨v2,vs,rfl,h2,hr⟩:=hr.iw;obtain⟨v3,vs,rfl,h3,hr⟩:=hr.iw;obtain rfl:=hr.lV;obtain rfl:=eo.gn h1;obtain rfl:=eo.gn h3;obtain⟨A,c,rfl,s1⟩:=qJ hk h2;exact(CD s A c L e w s1 ae (by have:=ky L;unfold ig at this;omega) gq fV hK).mono fun e w' h=>rd B w e w' hB h
theorem afo(x y:Nat):E.le (.sl false 2 1 fun i j=>[E.v (.int .u32 (x:Int)),.v (.int .u32 (y:Int))].getD (i*1+j) (.v (.bool false))) (dO [x,y]):=.sl fun i j hi hj=>by
 obtain rfl:j=0:= ae ;obtain rfl|rfl:i=0\/i=1:= ae 
 .exact ⟨.refl _,rfl⟩
 .exact ⟨.refl _,rfl⟩
theorem wm(n:Nat):er (n:Int)=canon false n 0:=by
 unfold er gp;rw[aD ae,dz]
theorem Hj(n:Nat)(h:n<4294967296):(er (n:Int)).Valid:=by
 rw[wm];refine⟨oq _ _ _,?_⟩;by_cases h0:n=0
 .subst h0;exact .inl rfl
 .have:=vq (s:=false) (e:=0) h0
  have hb:dU n<=32:=gS.2 h;refine .inr ⟨ ae, ae,?_, ae⟩;obtain⟨h1,h2,h3,h4⟩:=this;have:=jK h3;omega
theorem val_two(x y:Nat):val [x,y]=x+4294967296*y:=by simp[val]
open Go.RowKit Fp Pu
def Ky(d:Dy)(n p:Nat)(x:Nat):PS:=⟨41,true,[(14,.e (iP (((x+1):Nat):Int))),(13,.e (iP ((ez d p false x).2))),(12,.box 12 0),(10,.box 10 0),(5,.box 5 0),(1,.e (iP n)),(2,.e (iP p)),(4,.e (.fn 92 []))],[(12,.cells 31 (fD ((ez d p false x).1))),(10,.cells 31 [(bP false),(.v (.slice none 0 0)),(iP 0)]),(5,.cells 31 (fD d))]⟩
def Kz(d:Dy)(n N p:Nat)(x:Nat):PS:=⟨41,true,[(14,.e (iP (((x+1):Nat):Int))),(13,.e (iP ((ez d p false x).2))),(12,.box 12 0),(10,.box 10 0),(5,.box 5 0),(1,.e (iP n)),(2,.e (iP p)),(4,.e (.fn 92 []))],[(12,.cells 31 (fD ((ez d p false x).1))),(10,.cells 31 [(bP false),(.v (.slice none 0 0)),(iP 0)]),(5,.cells 31 (fD d))]⟩
def KA(d:Dy)(n p:Nat)(x:Nat):PS:=⟨41,true,[(14,.e (iP (((x+1):Nat):Int))),(13,.e (iP ((ez d p true x).2))),(12,.box 12 0),(10,.box 10 0),(5,.box 5 0),(1,.e (iP n)),(2,.e (iP p)),(4,.e (.fn 93 []))],[(12,.cells 31 (fD ((ez d p true x).1))),(10,.cells 31 [(bP false),(.v (.slice none 0 0)),(iP 0)]),(5,.cells 31 (fD d))]⟩
def KB(d:Dy)(n N p:Nat)(x:Nat):PS:=⟨41,true,[(14,.e (iP (((x+1):Nat):Int))),(13,.e (iP ((ez d p true x).2))),(12,.box 12 0),(10,.box 10 0),(5,.box 5 0),(1,.e (iP n)),(2,.e (iP p)),(4,.e (.fn 93 []))],[(12,.cells 31 (fD ((ez d p true x).1))),(10,.cells 31 [(bP false),(.v (.slice none 0 0)),(iP 0)]),(5,.cells 31 (fD d))]⟩
theorem Ts(a b:Dy)(ha:a.Valid)(hb:b.Valid):dM 190 [dP a,dP b] (.ef [dP (fS (ep a b)),iP (iJ (ep a b))]):=II Tryz.call190 (fun A c A' c' w h k hT=>LC a b A A' c c' w h k hT ha hb) BB
theorem zE(a b:Dy)(ha:a.Valid)(hb:b.Valid):dM 156 [dP a,dP b] (.ef [dP (fS (ep a (eD b))),iP (iJ (ep a (eD b)))]):=II Tryz.call156 (fun A c A' c' w h k hT=>VM a b A A' c c' w h k hT ha hb) BB
theorem zC(a b:Dy)(ha:a.Valid)(hb:b.Valid):dM 157 [(dP a),(dP b)] (.ef [(dP (fS (ep a b))),(iP (iJ (ep a b)))]):=by
 exact tr true Tryz.call157 Tryz.func157 (chain [.c (lK _ af :dM 68 [(dP a)] _),.c (lK _ af :dM 68 [(dP b)] _),.c (Ts _ _ af af :dM 190 [(dP a),(dP b)] _)]<|.nil) ah 
theorem SL(s:Bool)(m:Nat)(e:Int)(hl:(dN m).length<=256)(gq:-1000000<=e)(fV:e<=1000000):dM 79 [bP s,dO (dN m),iP e] (dP (canon s m e)):=by
 refine⟨Tryz.call79,fun w B vs hK hB hr=>?_⟩;obtain⟨v1,vs,rfl,h1,hr⟩:=hr.iw;obtain⟨v2,vs,rfl,h2,hr⟩:=hr.iw;obtain⟨v3,vs,rfl,h3,hr⟩:=hr.iw;obtain rfl:=hr.lV;obtain rfl:=eo.gn h1;obtain rfl:=eo.gn h3;obtain⟨A,c,rfl,s1⟩:=qJ (gr m) h2;exact(xq s m e A c w s1 hl gq fV hK).mono fun e w' h=>rd B w e w' hB h
theorem SM(d:Dy)(hl:(dN d.m).length<=100000000)(gq:-10000000<=d.e)(fV:d.e<=10000000):dM 78 [dP d] (.ef [dP (fS d),iP (iJ d)]):=
 sw Tryz.call78 (fun A c w h _=>Cu d A c w h ae ae ae) BB
theorem SX(k:Int)(h1:-32768<=k)(h2:k<=32768):dM 77 [(iP k)] (bP true):=by
 exact tr true Tryz.call77 Tryz.func77 (chain [tT 4 ((-32768)<=k) ae,tT 7 (k<=32768) ae]<|.nil) ah 
theorem E4(d:Dy)(k:Int)(hv:d.Valid)(h1:-32768<=k)(h2:k<=32768):dM 36 [(dP d),(iP k)] (.ef [(dP (fS (canon d.neg d.m (d.e+k)))),(iP (iJ (canon d.neg d.m (d.e+k))))]):=by
 have hl:=hv.dN;have he:=hv.exp;have eB:=KO (gr d.m) hl d.neg (d.e+k);obtain⟨iR,mL⟩:=Fj (gr d.m) hl d.neg (d.e+k) ae ae;rw[eV]at eB iR mL;exact tr true Tryz.call36 Tryz.func36 (chain [.c (lK _ af :dM 68 [(dP d)] _),.c (SX _ ae ae :dM 77 [(iP k)] _),eh (d.e+k) ae,.c (SL _ _ _ ae ae ae :dM 79 [(bP d.neg),(dO (dN d.m)),(iP (d.e+k))] _),.c (SM _ ae ae ae :dM 78 [(dP (canon d.neg d.m (d.e+k)))] _)]<|.nil) ah 
theorem EZ(n:Nat)(h:n<4294967296):dM 113 [(iP n)] (dP (er (n:Int))):=by
 have ok2:ej [n%4294967296,n/4294967296%4294967296]:=ej.cons (aS _ ag) (ej.cons (aS _ ag) ej.nil);exact tr true Tryz.call113 Tryz.func113 (chain [.o 5 (.int (lY _ ae):PV.le (.e (.v (.int .u64 (IntKind.u64.wrap (n:Int))))) (.e (.v (.int .u64 (n:Int))))),tF 7 ((n:Int)<0) ae,tF 11 ((n:Int)<0) ae,.o 13 (.int (qL _):PV.le (.e (.v (.int .u32 (IntKind.u32.wrap (n:Int))))) (.e (.v (.int .u32 (((n%4294967296):Nat):Int))))),.a ( ae :0<=(32:Int)/\(32:Int)<=((64:Nat):Int)),.o 15 (.int (y6 _):PV.le (.e (.v (.int .u64 ((n:Int)/2^32)))) (.e (.v (.int .u64 (((n/4294967296):Nat):Int))))),.o 16 (.int (qL _):PV.le (.e (.v (.int .u32 (IntKind.u32.wrap (((n/4294967296):Nat):Int))))) (.e (.v (.int .u32 ((((n/4294967296)%4294967296):Nat):Int))))),.o 17 (.e (afo _ _):PV.le (.e (.sl false 2 1 fun i_ j_=>[(.v (.int .u32 (((n%4294967296):Nat):Int))),(.v (.int .u32 ((((n/4294967296)%4294967296):Nat):Int)))].getD (i_*1+j_) (.v (.bool false)))) (.e (dO [(n%4294967296),((n/4294967296)%4294967296)]))),.c (VF _ _ _ ok2 aj ag ag :dM 79 [(bP false),(dO [(n%4294967296),((n/4294967296)%4294967296)]),(iP 0)] _)]<|rQ (dP (canon false (val [(n%4294967296),((n/4294967296)%4294967296)]) 0)) (dP (er (n:Int))) (by rw[val_two,show n%4294967296+4294967296*(n/4294967296%4294967296)=n by omega,wm])) ah 
theorem Z3:er 1=⟨false,1,0⟩:=by rw[show(1:Int)=((1:Nat):Int)from rfl,wm];exact Pv
theorem EY:dM 113 [iP 1] (dP ⟨false,1,0⟩):=by
 have:=EZ 1 ag;rwa[show((1:Nat):Int)=1 from rfl,Z3]at this
theorem Ck(d:Dy)(p:Nat)(hd:d.Valid)(dW:8<=p)(dR:p<=512):dM 301 [(dP d),(iP p)] (.ef [(dP (ff d p false)),(iP (fg d p false))]):=by
 exact tr true Tryz.call301 Tryz.func301 (chain [.c (D2 d p false af ae ae)]<|.nil) ah 
theorem Cl(d:Dy)(p:Nat)(hd:d.Valid)(dW:8<=p)(dR:p<=512):dM 300 [(dP d),(iP p)] (.ef [(dP (ff d p true)),(iP (fg d p true))]):=by
 exact tr true Tryz.call300 Tryz.func300 (chain [.c (D2 d p true af ae ae)]<|.nil) ah 
theorem IN(d:Dy)(p:Nat)(up:Bool)(N:Nat)(h:(ez d p up N).2≠0):∀ k,ez d p up (N+k)=ez d p up N
 | 0=>rfl
 | k+1=>by
  have ih:=IN d p up N h k;show(if(ez d p up (N+k)).2≠0 then ez d p up (N+k)else _)=_;rw[ih,aC h]
theorem uS{d:Dy}{p:Nat}{up:Bool}{k:Nat}(h:(ez d p up k).2=0):ez d p up (k+1)=(ff (iE (ez d p up k).1 d) p up,fg (iE (ez d p up k).1 d) p up):=by
 show(if(ez d p up k).2≠0 then _ else _)=_;rw[aB (not_not_intro h)];rfl
theorem Te(d:Dy)(n p:Nat)(hd:d.Valid)(hn:1<=n)(iq:n<=16)(dW:8<=p)(dR:p<=512)(eC:∀ x,x<n-1->(ez d p false x).2=0):dM 299 [(dP d),(iP n),(iP p),(.fn 301 []),(.fn 92 [])] (.ef [dP (ez d p false (n-1)).1,iP (ez d p false (n-1)).2]):=by
 exact tr true Tryz.call299 Tryz.func299 (chain [.c (Ck _ _ af ae ae :dM 301 [(dP d),(iP p)] _),.s (Sp.upto (Ky d n p) 0 (n-1) ae (fun x hx ic=>by
    have kn:=eC x ae;have hv:=tI d (show 1<=p by omega) (show p<=4096 by omega) false x;exact eu (chain [tT 24 ((((x+1):Nat):Int)<(n:Int)) ae,tB 27 (by rw[kn];rfl:(((ez d p false x).2)==0)=true),.c (D0 ((ez d p false x).1) d p af af ae ae),
     eh ((((x+1):Nat):Int)+1) ae]<|.e (chain [.o 13 (.int (by rw[uS kn]):PV.le (.e (iP (fg (iE ((ez d p false x).1) d) p false))) (.e (iP ((ez d p false (x+1)).2)))),.b 12 (.of_eq (by rw[uS kn]):Bx.le (.cells 31 (fD (ff (iE ((ez d p false x).1) d) p false))) (.cells 31 (fD ((ez d p false (x+1)).1))))]<|.nil)) ah)
  (fun hx=>by
    exact eu (chain [tF 24 (((((n-1)+1):Nat):Int)<(n:Int)) ae]<|.nil) ah) ak :fP 3 Tryz.f299 (Ky d n p 0) (.exit 0) ⟨41,true,[(13,.e (iP ((ez d p false (n-1)).2))),(12,.box 12 0),(10,.box 10 0)],[(12,.cells 31 (fD ((ez d p false (n-1)).1))),(10,.cells 31 [(bP false),(.v (.slice none 0 0)),(iP 0)])]⟩) (chain [.o 14 (.int rfl:PV.le (.e (iP 1)) (.e (iP (((0+1):Nat):Int)))),.o 13 (.int rfl:PV.le (.e (iP (fg d p false))) (.e (iP ((ez d p false 0).2)))),.b 12 (.of_eq rfl:Bx.le (.cells 31 (fD (ff d p false))) (.cells 31 (fD ((ez d p false 0).1))))]<|.nil)]<|.nil) ah 
theorem Tf(d:Dy)(n N p:Nat)(hd:d.Valid)(hn:1<=n)(iq:n<=16)(dW:8<=p)(dR:p<=512)(ki:N<n-1)(eC:∀ x,x<N->(ez d p false x).2=0)(hN:(ez d p false N).2≠0):dM 299 [(dP d),(iP n),(iP p),(.fn 301 []),(.fn 92 [])] (.ef [dP (ez d p false N).1,iP (ez d p false N).2]):=by
 exact tr true Tryz.call299 Tryz.func299 (chain [.c (Ck _ _ af ae ae :dM 301 [(dP d),(iP p)] _),.s (Sp.upto (Kz d n N p) 0 N ae (fun x hx ic=>by
    have kn:=eC x ae;have hv:=tI d (show 1<=p by omega) (show p<=4096 by omega) false x;exact eu (chain [tT 24 ((((x+1):Nat):Int)<(n:Int)) ae,tB 27 (by rw[kn];rfl:(((ez d p false x).2)==0)=true),.c (D0 ((ez d p false x).1) d p af af ae ae),
     eh ((((x+1):Nat):Int)+1) ae]<|.e (chain [.o 13 (.int (by rw[uS kn]):PV.le (.e (iP (fg (iE ((ez d p false x).1) d) p false))) (.e (iP ((ez d p false (x+1)).2)))),.b 12 (.of_eq (by rw[uS kn]):Bx.le (.cells 31 (fD (ff (iE ((ez d p false x).1) d) p false))) (.cells 31 (fD ((ez d p false (x+1)).1))))]<|.nil)) ah)
  (fun hx=>by
    exact eu (chain [tT 24 ((((N+1):Nat):Int)<(n:Int)) ae,tB 27 (by simpa using hN:(((ez d p false N).2)==0)=false)]<|.nil) ah) ak :fP 3 Tryz.f299 (Kz d n N p 0) (.exit 0) ⟨41,true,[(13,.e (iP ((ez d p false N).2))),(12,.box 12 0),(10,.box 10 0)],[(12,.cells 31 (fD ((ez d p false N).1))),(10,.cells 31 [(bP false),(.v (.slice none 0 0)),(iP 0)])]⟩) (chain [.o 14 (.int rfl:PV.le (.e (iP 1)) (.e (iP (((0+1):Nat):Int)))),.o 13 (.int rfl:PV.le (.e (iP (fg d p false))) (.e (iP ((ez d p false 0).2)))),.b 12 (.of_eq rfl:Bx.le (.cells 31 (fD (ff d p false))) (.cells 31 (fD ((ez d p false 0).1))))]<|.nil)]<|.nil) ah 
theorem Tg(d:Dy)(n p:Nat)(hd:d.Valid)(hn:1<=n)(iq:n<=16)(dW:8<=p)(dR:p<=512):dM 299 [(dP d),(iP n),(iP p),(.fn 301 []),(.fn 92 [])] (.ef [dP (ez d p false (n-1)).1,iP (ez d p false (n-1)).2]):=by
 by_cases h:∃ x,x<n-1/\decide ((ez d p false x).2≠0)=true
 .obtain ⟨N,h1,h2,h3⟩:=oK h
  have hN:(ez d p false N).2≠0:=bV h2;have:=Tf d n N p hd hn iq dW dR h1 (fun x hx=>by simpa using h3 x hx) hN;have e:=IN d p false N hN (n-1-N);rw[show N+(n-1-N)=n-1 by omega]at e;rw[e];exact this
 .exact Te d n p hd hn iq dW dR fun x hx=>bh fun q=>h ⟨x,hx,aE q⟩
theorem Th(d:Dy)(n p:Nat)(hd:d.Valid)(hn:1<=n)(iq:n<=16)(dW:8<=p)(dR:p<=512)(eC:∀ x,x<n-1->(ez d p true x).2=0):dM 299 [(dP d),(iP n),(iP p),(.fn 300 []),(.fn 93 [])] (.ef [dP (ez d p true (n-1)).1,iP (ez d p true (n-1)).2]):=by
 exact tr true Tryz.call299 Tryz.func299 (chain [.c (Cl _ _ af ae ae :dM 300 [(dP d),(iP p)] _),.s (Sp.upto (KA d n p) 0 (n-1) ae (fun x hx ic=>by
    have kn:=eC x ae;have hv:=tI d (show 1<=p by omega) (show p<=4096 by omega) true x;exact eu (chain [tT 24 ((((x+1):Nat):Int)<(n:Int)) ae,tB 27 (by rw[kn];rfl:(((ez d p true x).2)==0)=true),.c (D1 ((ez d p true x).1) d p af af ae ae),
     eh ((((x+1):Nat):Int)+1) ae]<|.e (chain [.o 13 (.int (by rw[uS kn]):PV.le (.e (iP (fg (iE ((ez d p true x).1) d) p true))) (.e (iP ((ez d p true (x+1)).2)))),.b 12 (.of_eq (by rw[uS kn]):Bx.le (.cells 31 (fD (ff (iE ((ez d p true x).1) d) p true))) (.cells 31 (fD ((ez d p true (x+1)).1))))]<|.nil)) ah)
  (fun hx=>by
    exact eu (chain [tF 24 (((((n-1)+1):Nat):Int)<(n:Int)) ae]<|.nil) ah) ak :fP 3 Tryz.f299 (KA d n p 0) (.exit 0) ⟨41,true,[(13,.e (iP ((ez d p true (n-1)).2))),(12,.box 12 0),(10,.box 10 0)],[(12,.cells 31 (fD ((ez d p true (n-1)).1))),(10,.cells 31 [(bP false),(.v (.slice none 0 0)),(iP 0)])]⟩) (chain [.o 14 (.int rfl:PV.le (.e (iP 1)) (.e (iP (((0+1):Nat):Int)))),.o 13 (.int rfl:PV.le (.e (iP (fg d p true))) (.e (iP ((ez d p true 0).2)))),.b 12 (.of_eq rfl:Bx.le (.cells 31 (fD (ff d p true))) (.cells 31 (fD ((ez d p true 0).1))))]<|.nil)]<|.nil) ah 
theorem Ti(d:Dy)(n N p:Nat)(hd:d.Valid)(hn:1<=n)(iq:n<=16)(dW:8<=p)(dR:p<=512)(ki:N<n-1)(eC:∀ x,x<N->(ez d p true x).2=0)(hN:(ez d p true N).2≠0):dM 299 [(dP d),(iP n),(iP p),(.fn 300 []),(.fn 93 [])] (.ef [dP (ez d p true N).1,iP (ez d p true N).2]):=by
 exact tr true Tryz.call299 Tryz.func299 (chain [.c (Cl _ _ af ae ae :dM 300 [(dP d),(iP p)] _),.s (Sp.upto (KB d n N p) 0 N ae (fun x hx ic=>by
    have kn:=eC x ae;have hv:=tI d (show 1<=p by omega) (show p<=4096 by omega) true x;exact eu (chain [tT 24 ((((x+1):Nat):Int)<(n:Int)) ae,tB 27 (by rw[kn];rfl:(((ez d p true x).2)==0)=true),.c (D1 ((ez d p true x).1) d p af af ae ae),
     eh ((((x+1):Nat):Int)+1) ae]<|.e (chain [.o 13 (.int (by rw[uS kn]):PV.le (.e (iP (fg (iE ((ez d p true x).1) d) p true))) (.e (iP ((ez d p true (x+1)).2)))),.b 12 (.of_eq (by rw[uS kn]):Bx.le (.cells 31 (fD (ff (iE ((ez d p true x).1) d) p true))) (.cells 31 (fD ((ez d p true (x+1)).1))))]<|.nil)) ah)
  (fun hx=>by
    exact eu (chain [tT 24 ((((N+1):Nat):Int)<(n:Int)) ae,tB 27 (by simpa using hN:(((ez d p true N).2)==0)=false)]<|.nil) ah) ak :fP 3 Tryz.f299 (KB d n N p 0) (.exit 0) ⟨41,true,[(13,.e (iP ((ez d p true N).2))),(12,.box 12 0),(10,.box 10 0)],[(12,.cells 31 (fD ((ez d p true N).1))),(10,.cells 31 [(bP false),(.v (.slice none 0 0)),(iP 0)])]⟩) (chain [.o 14 (.int rfl:PV.le (.e (iP 1)) (.e (iP (((0+1):Nat):Int)))),.o 13 (.int rfl:PV.le (.e (iP (fg d p true))) (.e (iP ((ez d p true 0).2)))),.b 12 (.of_eq rfl:Bx.le (.cells 31 (fD (ff d p true))) (.cells 31 (fD ((ez d p true 0).1))))]<|.nil)]<|.nil) ah 
theorem Tj(d:Dy)(n p:Nat)(hd:d.Valid)(hn:1<=n)(iq:n<=16)(dW:8<=p)(dR:p<=512):dM 299 [(dP d),(iP n),(iP p),(.fn 300 []),(.fn 93 [])] (.ef [dP (ez d p true (n-1)).1,iP (ez d p true (n-1)).2]):=by
 by_cases h:∃ x,x<n-1/\decide ((ez d p true x).2≠0)=true
 .obtain ⟨N,h1,h2,h3⟩:=oK h
  have hN:(ez d p true N).2≠0:=bV h2;have:=Ti d n N p hd hn iq dW dR h1 (fun x hx=>by simpa using h3 x hx) hN;have e:=IN d p true N hN (n-1-N);rw[show N+(n-1-N)=n-1 by omega]at e;rw[e];exact this
 .exact Th d n p hd hn iq dW dR fun x hx=>bh fun q=>h ⟨x,hx,aE q⟩
theorem Kn(d:Dy)(n p:Nat)(hd:d.Valid)(h0:¬d.sign<0)(hn:1<=n)(iq:n<=16)(dW:8<=p)(dR:p<=512):dM 278 [(dP d),(iP n),(iP p),(bP false)] (.ef [dP (fU d n p false).1,iP (fU d n p false).2]):=by
 exact tr true Tryz.call278 Tryz.func278 (chain [.c (jN _ af :dM 35 [(dP d)] _),tB 14 (aD h0),.c (Tg _ _ _ af ae ae ae ae :dM 299 [(dP d),(iP n),(iP p),(.fn 301 []),(.fn 92 [])] _)]<|rQ (.ef [(dP ((ez d p false (n-1)).1)),(iP ((ez d p false (n-1)).2))]) (.ef [dP (fU d n p false).1,iP (fU d n p false).2]) (by unfold fU;rw[aB h0])) ah 
theorem Ko(d:Dy)(n p:Nat)(hd:d.Valid)(h0:¬d.sign<0)(hn:1<=n)(iq:n<=16)(dW:8<=p)(dR:p<=512):dM 278 [(dP d),(iP n),(iP p),(bP true)] (.ef [dP (fU d n p true).1,iP (fU d n p true).2]):=by
 exact tr true Tryz.call278 Tryz.func278 (chain [.c (jN _ af :dM 35 [(dP d)] _),tB 14 (aD h0),.c (Tj _ _ _ af ae ae ae ae :dM 299 [(dP d),(iP n),(iP p),(.fn 300 []),(.fn 93 [])] _)]<|rQ (.ef [(dP ((ez d p true (n-1)).1)),(iP ((ez d p true (n-1)).2))]) (.ef [dP (fU d n p true).1,iP (fU d n p true).2]) (by unfold fU;rw[aB h0])) ah 
theorem sign_neg{d:Dy}(h:d.sign<0):¬(eD d).sign<0:=by
 rw[(kp _).2,iB];have:=(kp d).2.1 h
 grind
theorem SP(d:Dy)(n p:Nat)(hd:d.Valid)(h0:¬d.sign<0)(hn:1<=n)(iq:n<=16)(dW:8<=p)(dR:p<=512):dM 278 [dP d,iP (n:Int),iP (p:Int),bP false] (.ef [dP (ez d p false (n-1)).1,iP (ez d p false (n-1)).2]):=by
 have:=Kn d n p hd h0 hn iq dW dR;unfold fU at this;rwa[aB h0]at this
theorem SR(d:Dy)(n p:Nat)(hd:d.Valid)(h0:¬d.sign<0)(hn:1<=n)(iq:n<=16)(dW:8<=p)(dR:p<=512):dM 278 [dP d,iP (n:Int),iP (p:Int),bP true] (.ef [dP (ez d p true (n-1)).1,iP (ez d p true (n-1)).2]):=by
 have:=Ko d n p hd h0 hn iq dW dR;unfold fU at this;rwa[aB h0]at this
theorem SN(d:Dy)(n p:Nat)(hd:d.Valid)(h0:d.sign<0)(hn:1<=n)(iq:n<=16)(dW:8<=p)(dR:p<=512):dM 278 [(dP d),(iP n),(iP p),(bP false)] (.ef [dP (fU d n p false).1,iP (fU d n p false).2]):=by
 have Az:=tA hd;have h1:=sign_neg h0;have hv:=tI (eD d) (show 1<=p by omega) (show p<=4096 by omega) true (n-1);exact tr true Tryz.call278 Tryz.func278 (chain [.c (jN _ af :dM 35 [(dP d)] _),tB 14 (aE h0),.c (sO _ af :dM 191 [(dP d)] _),.c (SR _ _ _ Az h1 hn iq dW dR:dM 278 [(dP (eD d)),(iP n),(iP p),(bP true)] _),.c (sO _ af :dM 191 [(dP ((ez (eD d) p true (n-1)).1))] _)]<|rQ (.ef [(dP (eD ((ez (eD d) p true (n-1)).1))),(iP ((ez (eD d) p true (n-1)).2))]) (.ef [dP (fU d n p false).1,iP (fU d n p false).2]) (by unfold fU;rw[aC h0];rfl)) ah 
theorem Kp(d:Dy)(n p:Nat)(hd:d.Valid)(hn:1<=n)(iq:n<=16)(dW:8<=p)(dR:p<=512):dM 278 [dP d,iP (n:Int),iP (p:Int),bP false] (.ef [dP (fU d n p false).1,iP (fU d n p false).2]):=by
 by_cases h0:d.sign<0
 .exact SN d n p hd h0 hn iq dW dR
 .exact Kn d n p hd h0 hn iq dW dR
theorem SO(d:Dy)(n p:Nat)(hd:d.Valid)(h0:d.sign<0)(hn:1<=n)(iq:n<=16)(dW:8<=p)(dR:p<=512):dM 278 [(dP d),(iP n),(iP p),(bP true)] (.ef [dP (fU d n p true).1,iP (fU d n p true).2]):=by
 have Az:=tA hd;have h1:=sign_neg h0;have hv:=tI (eD d) (show 1<=p by omega) (show p<=4096 by omega) false (n-1);exact tr true Tryz.call278 Tryz.func278 (chain [.c (jN _ af :dM 35 [(dP d)] _),tB 14 (aE h0),.c (sO _ af :dM 191 [(dP d)] _),.c (SP _ _ _ Az h1 hn iq dW dR:dM 278 [(dP (eD d)),(iP n),(iP p),(bP false)] _),.c (sO _ af :dM 191 [(dP ((ez (eD d) p false (n-1)).1))] _)]<|rQ (.ef [(dP (eD ((ez (eD d) p false (n-1)).1))),(iP ((ez (eD d) p false (n-1)).2))]) (.ef [dP (fU d n p true).1,iP (fU d n p true).2]) (by unfold fU;rw[aC h0];rfl)) ah 
theorem Kq(d:Dy)(n p:Nat)(hd:d.Valid)(hn:1<=n)(iq:n<=16)(dW:8<=p)(dR:p<=512):dM 278 [dP d,iP (n:Int),iP (p:Int),bP true] (.ef [dP (fU d n p true).1,iP (fU d n p true).2]):=by
 by_cases h0:d.sign<0
 .exact SO d n p hd h0 hn iq dW dR
 .exact Ko d n p hd h0 hn iq dW dR
theorem Tk(x:Iv)(n p:Nat)(hx:x.Valid)(ha:x.all=true)(hn:n<=16)(dW:8<=p)(dR:p<=512):dM 241 [(dQ x),(iP n),(iP p)] (dQ (lE x n p)):=by
 exact tr true Tryz.call241 Tryz.func241 (chain [.o 12 (.e (jf _):PV.le (.e (.sl true 1 7 fun i_ j_=>(ev x).getD (i_*7+j_) (.v (.bool false)))) (.e (dY [x]))),.c (k0 _ af :dM 86 [(dY [x])] _),tB 13 (by rw[ha];rfl:(!x.all)=false),.c ji]<|rQ (dQ dV) (dQ (lE x n p)) (by unfold lE;rw[aC ha])) ah 
theorem To(x:Iv)(n p:Nat)(hx:x.Valid)(ha:x.all=false)(h0:n=0)(dW:8<=p)(dR:p<=512):dM 241 [(dQ x),(iP n),(iP p)] (dQ (lE x n p)):=by
 have v1:=yQ;exact tr true Tryz.call241 Tryz.func241 (chain [.o 12 (.e (jf _):PV.le (.e (.sl true 1 7 fun i_ j_=>(ev x).getD (i_*7+j_) (.v (.bool false)))) (.e (dY [x]))),.c (k0 _ af :dM 86 [(dY [x])] _),tB 13 (by rw[ha];rfl:(!x.all)=true),.c (qy _:dM 87 [(iP p)] _),tB 17 (nf.2 ⟨ ae, ae⟩:(im (p:Int))=true),tF 22 ((n:Int)<0) ae,tF 26 (16<(n:Int)) ae,tB 30 (pk h0:((n:Int)==0)=true),.c (EY:dM 113 [(iP 1)] _),.c (uI (Dy.mk false 1 0) af)]<|rQ (dQ (gi (Dy.mk false 1 0))) (dQ (lE x n p)) (by unfold lE;rw[aB (by rw[ha];decide),aC h0])) ah 
theorem Tl(x:Iv)(n p:Nat)(hx:x.Valid)(ha:x.all=false)(h0:n≠0)(hn:n<=16)(he:n%2=0)(dW:8<=p)(dR:p<=512):dM 241 [(dQ x),(iP n),(iP p)] (dQ (lE x n p)):=by
 have va:=zw hx;obtain⟨w1,w2⟩:=va.ends;exact tr true Tryz.call241 Tryz.func241 (chain [.o 12 (.e (jf _):PV.le (.e (.sl true 1 7 fun i_ j_=>(ev x).getD (i_*7+j_) (.v (.bool false)))) (.e (dY [x]))),.c (k0 _ af :dM 86 [(dY [x])] _),tB 13 (by rw[ha];rfl:(!x.all)=true),.c (qy _:dM 87 [(iP p)] _),tB 17 (nf.2 ⟨ ae, ae⟩:(im (p:Int))=true),tF 22 ((n:Int)<0) ae,tF 26 (16<(n:Int)) ae,tB 30 (ko h0:((n:Int)==0)=false),.a ( ae :0<(2:Int)),.o 34 (.int (by rw[Int.tmod_eq_emod_of_nonneg ae];omega):PV.le (.e (iP (Int.tmod (n:Int) 2))) (.e (iP (((n%2):Nat):Int)))),tB 35 (pk he:((((n%2):Nat):Int)==0)=true),.c (Hn x af),.c (Kp _ _ _ af ae ae ae ae :dM 278 [(dP ((fz x).lo)),(iP n),(iP p),(bP false)] _),.c (Kq _ _ _ af ae ae ae ae :dM 278 [(dP ((fz x).hi)),(iP n),(iP p),(bP true)] _),.c (wu ((fU ((fz x).lo) n p false).1) ((fU ((fz x).hi) n p true).1) ((fU ((fz x).lo) n p false).2) ((fU ((fz x).hi) n p true).2))]<|rQ (dQ (gN ((fU ((fz x).lo) n p false).1) ((fU ((fz x).lo) n p false).2) ((fU ((fz x).hi) n p true).1) ((fU ((fz x).hi) n p true).2))) (dQ (lE x n p)) (by unfold lE lv;rw[aB (by rw[ha];decide),aB h0,aC he])) ah 
theorem Tm(x:Iv)(n p:Nat)(hx:x.Valid)(ha:x.all=false)(h0:n≠0)(hn:n<=16)(he:¬n%2=0)(dW:8<=p)(dR:p<=512):dM 241 [(dQ x),(iP n),(iP p)] (dQ (lE x n p)):=by
 have va:=hx;obtain⟨w1,w2⟩:=va.ends;exact tr true Tryz.call241 Tryz.func241 (chain [.o 12 (.e (jf _):PV.le (.e (.sl true 1 7 fun i_ j_=>(ev x).getD (i_*7+j_) (.v (.bool false)))) (.e (dY [x]))),.c (k0 _ af :dM 86 [(dY [x])] _),tB 13 (by rw[ha];rfl:(!x.all)=true),.c (qy _:dM 87 [(iP p)] _),tB 17 (nf.2 ⟨ ae, ae⟩:(im (p:Int))=true),tF 22 ((n:Int)<0) ae,tF 26 (16<(n:Int)) ae,tB 30 (ko h0:((n:Int)==0)=false),.a ( ae :0<(2:Int)),.o 34 (.int (by rw[Int.tmod_eq_emod_of_nonneg ae];omega):PV.le (.e (iP (Int.tmod (n:Int) 2))) (.e (iP (((n%2):Nat):Int)))),tB 35 (ko he:((((n%2):Nat):Int)==0)=false),.c (Kp _ _ _ af ae ae ae ae :dM 278 [(dP x.lo),(iP n),(iP p),(bP false)] _),.c (Kq _ _ _ af ae ae ae ae :dM 278 [(dP x.hi),(iP n),(iP p),(bP true)] _),.c (wu ((fU x.lo n p false).1) ((fU x.hi n p true).1) ((fU x.lo n p false).2) ((fU x.hi n p true).2))]<|rQ (dQ (gN ((fU x.lo n p false).1) ((fU x.lo n p false).2) ((fU x.hi n p true).1) ((fU x.hi n p true).2))) (dQ (lE x n p)) (by unfold lE lv;rw[aB (by rw[ha];decide),aB h0,aB he])) ah 
theorem Tn(x:Iv)(n p:Nat)(hx:x.Valid)(hn:n<=16)(dW:8<=p)(dR:p<=512):dM 241 [dQ x,iP (n:Int),iP (p:Int)] (dQ (lE x n p)):=by
 cases ha:x.all with
 | true=>exact Tk x n p hx ha hn dW dR
 | false=>
  by_cases h0:n=0
  .exact To x n p hx ha h0 dW dR
  .by_cases he:n%2=0
   .exact Tl x n p hx ha h0 hn he dW dR
   .exact Tm x n p hx ha h0 hn he dW dR
theorem S1(x y:Iv)(hx:x.Valid)(hy:y.Valid)(xa:x.all=false)(ya:y.all=false):dM 158 [(dQ x),(dQ y)] (dQ (yl x y)):=by
 obtain⟨v1,v2⟩:=hx.ends;obtain⟨v3,v4⟩:=hy.ends;exact tr true Tryz.call158 Tryz.func158 (chain [.o 7 (.e (tn _ _):PV.le (.e (.sl true 2 7 fun i_ j_=>(ev x++ev y).getD (i_*7+j_) (.v (.bool false)))) (.e (dY [x,y]))),.c (tk _ _ af af :dM 86 [(dY [x,y])] _),tB 8 (by rw[xa,ya];rfl:(!(x.all||y.all))=true),.c (DC x.lo y.lo af af),.c (DE x.hi y.hi af af)]<|rQ (dQ (Iv.mk (minD x.lo y.lo) (maxD x.hi y.hi) false)) (dQ (yl x y)) (by unfold yl;rw[xa,ya];rfl)) ah 
theorem iI(z:Int):(z==0)=decide (z=0):=by by_cases h:z=0<;>simp[h]
theorem nO(x:Iv)(p:Nat)(hx:x.Valid)(xa:x.all=false)(dW:8<=p)(dR:p<=512):dM 160 [(dQ x),(iP p)] (.ef [dP (gL x p),bP (decide (mT x p=0))]):=by
 obtain⟨v1,v2⟩:=hx.ends;have v3:=tA v1;exact tr true Tryz.call160 Tryz.func160 (chain [.o 9 (.e (jf _):PV.le (.e (.sl true 1 7 fun i_ j_=>(ev x).getD (i_*7+j_) (.v (.bool false)))) (.e (dY [x]))),.c (k0 _ af :dM 86 [(dY [x])] _),tB 10 (by rw[xa];rfl:(!x.all)=true),.c (qy _:dM 87 [(iP p)] _),tB 14 (nf.2 ⟨ ae, ae⟩:(im (p:Int))=true),.c (sO _ af :dM 191 [(dP x.lo)] _),.c (Qg x.hi (eD x.lo) p af af ae ae)]<|rQ (.ef [(dP (ff (ep x.hi (eD x.lo)) p true)),(bP ((fg (ep x.hi (eD x.lo)) p true)==0))]) (.ef [dP (gL x p),bP (decide (mT x p=0))]) (by rw[iI];rfl)) ah 
theorem Cj(x y:Iv):sj x y=(y.all||(!x.all&&(decide (ew y.lo x.lo<=0)&&decide (ew x.hi y.hi<=0)))):=rfl
theorem S2(x y:Iv)(hx:x.Valid)(hy:y.Valid):dM 63 [(dQ x),(dQ y)] (bP (sj x y)):=by
 obtain⟨v1,v2⟩:=hx.ends;obtain⟨v3,v4⟩:=hy.ends;exact tr true Tryz.call63 Tryz.func63 (chain [.c (iS x af),.c (iS y af)]<|.w (y.all=true)
  (fun k1=>chain [tB 14 (k1)]<|rQ (bP true) (bP (sj x y)) (by rw[Cj];simp[k1]))
  (fun k1=>chain [tB 14 (ay k1)]<|.w (x.all=true)
   (fun k2=>chain [tB 17 (k2)]<|rQ (bP false) (bP (sj x y)) (by rw[Cj];simp[k1,k2]))
   (fun k2=>chain [tB 17 (ay k2),.c (gU _ _ af af :dM 37 [(dP y.lo),(dP x.lo)] _)]<|.w ((ew y.lo x.lo)<=0)
    (fun k3=>chain [tB 25 (aE k3),.c (gU _ _ af af :dM 37 [(dP x.hi),(dP y.hi)] _)]<|rQ (bP (decide ((ew x.hi y.hi)<=0))) (bP (sj x y)) (by rw[Cj];simp[k1,k2,k3]))
    (fun k3=>chain [tB 25 (aD k3)]<|rQ (bP false) (bP (sj x y)) (by rw[Cj];simp[k1,k2,k3]))))) ah 
open Go.RowKit Fp Pu
theorem age{α:Type}{l:List α}{i:Nat}{d:α}(h:i<l.length):l.getD i d=l[i]:=by
 rw[aF,aM h];rfl
theorem yA{T n n' k:Nat}{F:Nat->Iv}{y:Iv}(hn:n=k)(pG:n'=k+1)(hy:y=F k):
 Bx.le (.row true T (n+[y].length) 7 fun i j=>if i<n then fA ((List.range k).map F) i j else(E.mi (dY [y])) (i-n) j) (.row true T n' 7 (fA ((List.range (k+1)).map F))):=by
 subst hn pG hy;refine .row rfl fun i j hi hj=>⟨.of_eq ?_,yz _ _ hj⟩
 have hi:i<n+1:=hi;by_cases h:i<n
 .rw [aC h]
  simp only[fA];rw[IW h,IW hi]
 .have kx:i=n:= ae 
  subst kx;rw[aB h,cW];simp only[fA];rw[IW hi];rfl
theorem wB{n:Nat}{M:List Iv}(hn:n=M.length):E.le (.sl true n 7 (fA M)) (dY M):=by subst hn;exact .refl _
open Go.RowKit Fp Pu
open Go.RowKit Fp Pu
theorem wH(n:Nat)(h:n<4294967296):(eO (n:Int)).Valid:=pP (Hj n h)
open Go.RowKit Fp Pu
theorem UU(m:Nat)(e:Int):(canon false m e).neg=false:=by unfold canon;split<;>rfl
theorem ZV{c:Nat}(hc:0<c):(er (c:Int)).m≠0:=by
 rw[wm];exact(vq (s:=false) (e:=0) ae).2.2.1
theorem abo{c:Nat}(hc:0<c):jc (eO (c:Int))=1:=by
 unfold jc eO gi;simp only[aT,aL];rw[aC];unfold Dy.sign;rw[aB (ZV hc),show(er (c:Int)).neg=false by rw[wm];exact UU _ _];simp
open Go.RowKit Fp Pu
open Go.RowKit Fp Pu
section
variable {m m':List (List Iv)} {h h':Iv} {n p:Nat}
theorem It(j:Nat)(hj:j<4294967296):(eO (j:Int)).Valid:=pP (Hj j hj)
end
theorem Po(c:Nat):(eO (c:Int)).lo.q=(c:Rat)/\(eO (c:Int)).hi.q=(c:Rat)/\(eO (c:Int)).all=false:=by
 refine⟨?_,?_,rfl⟩
 .show (er _).q=_
  rw[uT];exact dc c
 .show (er _).q=_
  rw[uT];exact dc c
open Go.RowKit Fp Pu
theorem wP(s:Bool)(m:Nat)(e:Int)(hl:(dN m).length<=3000)(gq:-1000000<=e)(fV:e<=1000000):dM 76 [bP s,dO (dN m),iP e] (dP (canon s m e)):=by
 refine⟨Tryz.call76,fun w B vs hK hB hr=>?_⟩;obtain⟨v1,vs,rfl,h1,hr⟩:=hr.iw;obtain⟨v2,vs,rfl,h2,hr⟩:=hr.iw;obtain⟨v3,vs,rfl,h3,hr⟩:=hr.iw;obtain rfl:=hr.lV;obtain rfl:=eo.gn h1;obtain rfl:=eo.gn h3;obtain⟨A,c,rfl,s1⟩:=qJ (gr m) h2;have:=D4 s A c (dN m) e w s1 hl gq fV;rw[eV]at this;exact this.mono fun e w' h=>rd B w e w' hB h
theorem wQ(a:Dy)(ha:a.Valid):dM 46 [dP a] (bP true):=sw Tryz.call46 (fun A c w h _=>adr a A c w h ha) rv
theorem I5(a:Dy):dM 47 [dP a] (iP a.sign):=sw Tryz.call47 (fun A c w h _=>adm a A c w h) rv
theorem adf(a:Dy):dM 99 [dP a] (dP (eD a)):=
 sw Tryz.call99 (fun A c w h _=>by
  have:=ade a.neg A c (dN a.m) a.e w h (qK _);rw[eV]at this;exact this) rd
theorem D5(a:Dy)(ha:ub a):dM 97 [dP a] (iP a.dX):=sw Tryz.call97 (fun A c w h _=>adp a A c w h ha) rv
theorem ac9(n:Nat)(hn:n<4294967296):dM 81 [iP (n:Int)] (dP (canon false n 0)):=by
 refine⟨Tryz.call81,fun w B vs hK hB hr=>?_⟩;obtain⟨v1,vs,rfl,h1,hr⟩:=hr.iw;obtain rfl:=hr.lV;obtain rfl:=eo.gn h1;exact(ac8 n w hn).mono fun e w' h=>rd B w e w' hB h
end Go.Proofs.YtdgnpeddgdclhaaGreatDoor
namespace Go.Proofs.YtdgnpeddgdclhaaGreatDoor.Fp
theorem Oy(m k:Nat):fN (m/2^k*2^k) m=0↔m%2^k=0:=by
 have h1:=bM m (2^k);rw[aQ]at h1;unfold fN;split
 .simp;omega
 .split
  .have:=ch m (2^k);omega
  .simp;omega
theorem Ld{neg up more:Bool}{m p q:Nat}{e:Int}(hq:fT m e more p (neg != up)=q)(h:q=0\/¬16384<(dU q:Int)+e+ey m e p):fi neg m e more p up=canon neg q (e+ey m e p)/\eU neg m e more p up=0:=by
 have ho:gX m e more p (neg != up)=false:=by
  unfold gX;rw[hq];rcases h with h|h
  .simp [h]
  .simp [h]
 unfold fi eU;rw[ho,hq];simp
theorem Lf{neg up more:Bool}{m p q:Nat}{e:Int}(hq:fT m e more p (neg != up)=q)(h0:q≠0)(h:16384<(dU q:Int)+e+ey m e p):
 ((neg != up)=true->fi neg m e more p up=eW/\eU neg m e more p up=9)/\((neg != up)=false->fi neg m e more p up=canon neg (2^p-1) (16384-p)/\eU neg m e more p up=0):=by
 have ho:gX m e more p (neg != up)=true:=by unfold gX;rw[hq];simp[h0,h]
 unfold fi eU;rw[ho];constructor
 .intro hn;rw[hn];exact⟨rfl,rfl⟩
 .intro hn;rw[hn];exact⟨rfl,rfl⟩
end Go.Proofs.YtdgnpeddgdclhaaGreatDoor.Fp
namespace Go.Proofs.YtdgnpeddgdclhaaGreatDoor
open Go.RowKit Fp Pu
theorem adj(d:Dy)(k:Int)(hd:d.Valid)(kj:-32768<=k)(nU:k<=32768)(hr:iM (canon d.neg d.m (d.e+k))):dM 31 [dP d,iP k] (.ef [dP (canon d.neg d.m (d.e+k)),iP 0]):=by
 refine⟨Tryz.call31,fun w B vs hK hB AI=>?_⟩;obtain⟨v1,vs,rfl,h1,AI⟩:=AI.iw;obtain⟨v2,vs,rfl,h2,AI⟩:=AI.iw;obtain rfl:=AI.lV;obtain⟨A,c,rfl,s1⟩:=CE h1;obtain rfl:=eo.gn h2;have:=adk d.neg A c (dN d.m) d.e k w s1 hd.qV kj nU (by rw[eV];exact hr);rw[eV]at this;exact this.mono fun e w' h=>BB B w e w' hB h
theorem KN{n:Int}{e:Int}:canon (er n).neg (er n).m ((er n).e+e)=gp n e:=by
 unfold er gp;by_cases h:n.natAbs=0
 .rw [h,xp,xp]
  show canon false 0 _=_;rw[xp]
 .have h1:=zW h
  rw[show canon (decide (n<0)) n.natAbs 0=⟨decide (n<0),n.natAbs/2^fk n.natAbs,0+(fk n.natAbs:Int)⟩by unfold canon;rw[aB h]];show canon (decide (n<0)) (n.natAbs/2^fk n.natAbs) (0+(fk n.natAbs:Int)+e)=_;rw[<-Fm _ _ _ (fk n.natAbs),h1];congr 1;omega
theorem zJ{n e:Int}(h1:n.natAbs<4294967296)(h2:-1000<=e)(h3:e<=1000):(gp n e).Valid:=by
 refine⟨oq _ _ _,?_⟩;unfold gp;by_cases h0:n.natAbs=0
 .rw [h0,xp];exact .inl rfl
 .have:=vq (s:=decide (n<0)) (e:=e) h0
  have hb:dU n.natAbs<=32:=gS.2 h1;obtain⟨h4,h5,h6,_⟩:=this;have:=jK h6;exact .inr ⟨ ae, ae, ae, ae⟩
theorem jx{n:Int}(h1:n.natAbs<4294967296):(er n).Valid:=zJ h1 ag ag 
theorem ac6(k:Nat)(w:World)(h0:0<k)(hn:k<4294967296):
 Calls Tryz.prog 81 #[.int .i64 (-(k:Int))] w (rK w (canon true k 0)):=by
 have hm:=sK k ae;have qq:(k:Int)%4294967296=k:= ae ;rw[qq]at hm;have hd:(k:Int)/4294967296=0:= ae ;have ek:(-(k:Int))<0:= ae ;have Gu:decide ((-(k:Int))<0)=true:=aE ek;have hu:IntKind.u64.wrap (-(k:Int))=18446744073709551616-k:=by rw[IntKind.wrap_u64];omega
 have hs:IntKind.u64.wrap (-(18446744073709551616-(k:Int)))=k:=by rw[IntKind.wrap_u64];omega
 have HC:=Lib.hid (fun(A:Option Addr) c w (h:Sl w A c [k,0])=>D4 true A c [k,0] 0 w h aj ag ag);have hv:val [k,0]=k:= aj ;rw[hv]at HC;clear hv;generalize canon true k 0=d at *
 generalize hN:(-(k:Int))=N at *
 go_enter Tryz.func81,Tryz.ntmps81;go_wp2_with fail;refine(HC.out _ _ _ (Sl.two _ _ aj _ _ k 0 rfl rfl hn ag)).mono ?_;rintro r w1 ⟨A1,c1,rfl,oI,eB⟩;have eZ:Ext (w.alloc (.cells #[.bool false,.slice none 0 0,.int .i64 0] 31)) w1:=(Ext.alloc _ _).trans eB;have bx:=(eJ.new w false none 0 0 0).ext eZ;have b0:=bx.c0;have b1:=bx.c1;have b2:=bx.c2;have f0:=bx.fr 0;have f1:=bx.fr 1;have f2:=bx.fr 2;go_wp2;exact px rfl rfl rfl (bx.set _ _ _ _ _) rfl (bx.mH oI _ _ _ _ _) (eJ.mr ((Ext.alloc _ _).trans eZ) (aG _) _ _ _ _ _)
theorem NQ(k:Nat)(h0:0<k):er (-(k:Int))=canon true k 0:=by
 unfold er gp;rw[aE (show(-(k:Int))<0 by omega),ag9,dz]
theorem ac7(n:Int)(h:n.natAbs<4294967296):dM 81 [iP n] (dP (er n)):=by
 by_cases h0:0<=n
 .obtain ⟨k,rfl⟩:=dL h0
  rw[wm];exact ac9 k ae 
 .obtain ⟨k,rfl⟩:∃ k:Nat,n = -(k:Int):=⟨n.natAbs, ae⟩
  rw[NQ k ae];refine⟨Tryz.call81,fun w B vs hK hB hr=>?_⟩;obtain⟨v1,vs,rfl,h1,hr⟩:=hr.iw;obtain rfl:=hr.lV;obtain rfl:=eo.gn h1;exact(ac6 k w ae ae).mono fun e w' h=>rd B w e w' hB h
open Go.RowKit Fp Pu
open Classical in
noncomputable def Fp.kf(d:Dy)(k:Int):Dy:=if iM (canon d.neg d.m (d.e+k))then canon d.neg d.m (d.e+k)else eW
open Classical in
noncomputable def Fp.ng(d:Dy)(k:Int):Int:=if iM (canon d.neg d.m (d.e+k))then 0 else 9
def Fp.hasB(x:Iv)(d:Dy):Bool:=x.all||(decide (ew x.lo d<=0)&&decide (ew d x.hi<=0))
noncomputable def Fp.jP(x:Iv)(p:Nat):Dy:=
 if fg (ep x.lo x.hi) p false=0/\ng (ff (ep x.lo x.hi) p false) (-1)=0/\hasB x (kf (ff (ep x.lo x.hi) p false) (-1))=true then kf (ff (ep x.lo x.hi) p false) (-1)else x.lo
theorem BH(d:Dy)(k:Int):(kf d k).Valid:=by
 unfold kf;split
 .rename_i h;exact⟨oq _ _ _,h⟩
 .exact oO
theorem Ie{x:Iv}{p:Nat}(hx:x.Valid)(ha:x.all=false):(jP x p).Valid/\ew x.lo (jP x p)<=0/\ew (jP x p) x.hi<=0:=by
 have hv:=hx.ends;unfold jP;split
 .rename_i h
  obtain⟨_,_,h⟩:=h;unfold hasB at h;rw[ha,Bool.false_or,aX,bF,bF]at h;exact⟨BH _ _,h.1,h.2⟩
 .refine ⟨hv.1,uJ _,?_⟩
  rcases hx with⟨h,_⟩|⟨_,_,_,h⟩
  .rw [h]at ha;cases ha
  .exact h
noncomputable def Fp.iN(x:Iv)(k:Int):Iv:=if x.all then dV else gN (kf x.lo k) (ng x.lo k) (kf x.hi k) (ng x.hi k)
def Fp.my(x:Iv):Iv:=if x.all then x else⟨eD (iY x),iY x,false⟩
def Fp.lg(n:Int):Dy:=canon false 1 n
theorem qD{n:Int}(h:n.natAbs<4294967296):(eO n).Valid:=pP (jx h)
theorem xj{x:Iv}(hx:x.Valid):(my x).Valid:=by
 unfold my;cases fW:x.all
 .have he:=hx.ends
  have hm:=DK he.1 he.2;simp only[aT,aL];refine .inr ⟨rfl,tA hm,hm,?_⟩;show ew (eD (iY x)) (iY x)<=0;rw[ke,iB];obtain⟨a1,a2,_⟩:=wD hx.q;have:=hx.q
  grind
 .exact hx
theorem QL{d:Dy}{k:Int}(h:ng d k=0):kf d k=canon d.neg d.m (d.e+k):=by
 unfold ng at h;unfold kf;split at h
 .rename_i h1;rw[aC h1]
 .cases h
theorem uX{d:Dy}{k:Int}(h:ng d k=0):(kf d k).q=d.q*P2 k:=by
 rw[QL h,mQ,lW d,lG];cases d.neg<;>simp<;>grind
theorem Ef{x:Iv}(hx:x.Valid)(k:Int):(iN x k).Valid:=by
 unfold iN;split
 .exact gZ
 .unfold gN
  split
  .exact gZ
  .rename_i h
   refine .inr ⟨rfl,BH _ _,BH _ _,?_⟩;rw[ke,uX ae,uX ae,qC];exact hx.q
theorem Jk{x:Iv}{r:Rat}(h:x.has r)(k:Int):(iN x k).has (r*P2 k):=by
 unfold iN;split
 .exact .inl rfl
 .rename_i ha
  unfold gN;split
  .exact .inl rfl
  .obtain ⟨h1,h2⟩:=h.ends (by simpa using ha)
   refine .inr ⟨?_,?_⟩
   .show (kf x.lo k).q<=_
    rw[uX ae,qC];exact h1
   .show _<=(kf x.hi k).q
    rw[uX ae,qC];exact h2
open Go.RowKit Fp Pu
theorem VJ(k:Nat)(w:World)(h0:0<k)(hn:k<4294967296)(fO:Tb w):
 Calls Tryz.prog 113 #[.int .i64 (-(k:Int))] w (rK w (canon true k 0)):=by
 have hd:(k:Int)/4294967296=0:= ae ;have ek:(-(k:Int))<0:= ae ;have Gu:decide ((-(k:Int))<0)=true:=aE ek;have hu:IntKind.u64.wrap (-(k:Int))=18446744073709551616-k:=by rw[IntKind.wrap_u64];omega
 have hs:IntKind.u64.wrap (-(18446744073709551616-(k:Int)))=k:=by rw[IntKind.wrap_u64];omega
 have CU:IntKind.u32.wrap (k:Int)=k:=by rw[IntKind.wrap_u32];omega
 have ht:(dZ [k,0]).length<=256:=by have:=ky [k,0];unfold ig at this;simp at this;omega
 have HC:=Lib.hid (fun(A:Option Addr) c w (h:Sl w A c [k,0]) (hT:Tb w)=>CD true A c [k,0] 0 w h aj ht ag ag hT);have hv:val [k,0]=k:= aj ;rw[hv]at HC;clear hv ht;generalize canon true k 0=d at *
 generalize hN:(-(k:Int))=N at *
 go_enter Tryz.func113,Tryz.ntmps113;go_wp2_with fail;refine(HC.out _ _ _ (Sl.two _ _ aj _ _ k 0 rfl rfl hn ag) (fO.below (by first|exact(Ext.alloc _ _).trans (Ext.alloc _ _)|exact Ext.alloc _ _))).mono ?_;rintro r w1 ⟨A1,c1,rfl,oI,eB⟩;have eZ:Ext (w.alloc (.cells #[.bool false,.slice none 0 0,.int .i64 0] 31)) w1:=(Ext.alloc _ _).trans eB;have bx:=(eJ.new w false none 0 0 0).ext eZ;have b0:=bx.c0;have b1:=bx.c1;have b2:=bx.c2;have f0:=bx.fr 0;have f1:=bx.fr 1;have f2:=bx.fr 2;go_wp2;exact px rfl rfl rfl (bx.set _ _ _ _ _) rfl (bx.mH oI _ _ _ _ _) (eJ.mr ((Ext.alloc _ _).trans eZ) (aG _) _ _ _ _ _)
theorem ju(n:Int)(h:n.natAbs<4294967296):dM 113 [iP n] (dP (er n)):=by
 by_cases h0:0<=n
 .obtain ⟨k,rfl⟩:=dL h0
  exact EZ k ae 
 .obtain ⟨k,rfl⟩:∃ k:Nat,n = -(k:Int):=⟨n.natAbs, ae⟩
  rw[NQ k ae];refine⟨Tryz.call113,fun w B vs hK hB hr=>?_⟩;obtain⟨v1,vs,rfl,h1,hr⟩:=hr.iw;obtain rfl:=hr.lV;obtain rfl:=eo.gn h1;exact(VJ k w ae ae hK).mono fun e w' h=>rd B w e w' hB h
theorem ad4(d:Dy)(k:Int):fS (canon d.neg d.m (d.e+k))=kf d k:=by unfold fS kf;split<;>simp_all
theorem ad5(d:Dy)(k:Int):iJ (canon d.neg d.m (d.e+k))=ng d k:=by unfold iJ ng;split<;>simp_all
open Go.RowKit Fp Pu
def et(f:Nat->Rat):Nat->Rat
 | 0=>0
 | n+1=>et f n+f n
theorem lF{f g:Nat->Rat}:∀ n,(∀ i,i<n->f i=g i)->et f n=et g n
 | 0,_=>rfl
 | n+1,h=>by rw[et,et,lF n (fun i hi=>h i ae),h n ae]
theorem wW{f g:Nat->Rat}:∀ n,(∀ i,i<n->f i<=g i)->et f n<=et g n
 | 0,_=>bw
 | n+1,h=>by
  have h1:=wW n (fun i hi=>h i ae);have h2:=h n ae;rw[et,et];grind
theorem wX{f:Nat->Rat}(n:Nat)(h:∀ i,i<n->0<=f i):0<=et f n:=by
 induction n with
 | zero=>exact bw
 | succ n ih=>
  have h1:=ih (fun i hi=>h i ae);have h2:=h n ae;rw[et];grind
theorem u6(f:Nat->Rat)(c:Rat):∀ n,et (fun i=>c*f i) n=c*et f n
 | 0=>by simp[et]
 | n+1=>by rw[et,et,u6 f c n];grind
theorem y9(f:Nat->Rat)(c:Rat):∀ n,et (fun i=>f i*c) n=et f n*c
 | 0=>by simp[et]
 | n+1=>by rw[et,et,y9 f c n];grind
theorem BO(f g:Nat->Rat):∀ n,et (fun i=>f i+g i) n=et f n+et g n
 | 0=>by simp only[et];grind
 | n+1=>by rw[et,et,et,BO f g n];grind
theorem BP(f:Nat->Nat->Rat)(m:Nat):∀ n,et (fun i=>et (fun j=>f i j) m) n=et (fun j=>et (fun i=>f i j) n) m
 | 0=>by
  have:∀ m,et (fun _=>(0:Rat)) m=0:=by
   intro m
   induction m with
   | zero=>rfl
   | succ m ih=>rw[et,ih];grind
  exact(this m).symm
 | n+1=>by
  rw[et,BP f m n,<-BO];rfl
theorem Ri(f:Nat->Rat):∀ n,et f (n+1)=f 0+et (fun i=>f (i+1)) n
 | 0=>by simp only[et];grind
 | n+1=>by rw[et,Ri f n,et];grind
def eA(x:Rat):Rat:=if 0<=x then x else -x
theorem iQ(x:Rat):0<=eA x/\x<=eA x /\ -x<=eA x/\(eA x=x/\0<=x\/eA x = -x/\x<=0):=by unfold eA;split<;>grind
theorem sH{x b:Rat}(h1:x<=b)(h2:-x<=b):eA x<=b:=by unfold eA;split<;>grind
theorem J3(x y:Rat):eA (x+y)<=eA x+eA y:=by
 obtain⟨a1,a2,a3,_⟩:=iQ x;obtain⟨b1,b2,b3,_⟩:=iQ y;exact sH aq aq 
theorem sI(x y:Rat):eA (x*y)=eA x*eA y:=by
 obtain⟨_,_,_,a⟩:=iQ x;obtain⟨_,_,_,b⟩:=iQ y;obtain⟨c1,_,_,c⟩:=iQ (x*y);rcases a with⟨e1,h1⟩|⟨e1,h1⟩<;>rcases b with⟨e2,h2⟩|⟨e2,h2⟩<;>rw[e1,e2]
 .have:=bk h1 h2;grind
 .have:=bk h1 (show 0 <= -y by grind);grind
 .have:=bk (show 0 <= -x by grind) h2;grind
 .have:=bk (show 0 <= -x by grind) (show 0 <= -y by grind);grind
theorem xd(f:Nat->Rat):∀ n,eA (et f n)<=et (fun i=>eA (f i)) n
 | 0=>by simp[et,eA]
 | n+1=>by
  have h1:=xd f n;have h2:=J3 (et f n) (f n);rw[et,et];grind
theorem J4:eA 0=0:=rfl
abbrev QM:=Nat->Nat->Rat
def lR(n:Nat)(A B:QM):QM:=fun i j=>et (fun q=>A i q*B q j) n
def ss:QM:=fun i j=>if i=j then 1 else 0
def TQ(n:Nat)(M:QM)(t:Rat):Nat->QM
 | 0=>ss
 | j+1=>fun i l=>t/((j+1:Nat):Rat)*lR n (TQ n M t j) M i l
def SQ(n:Nat)(M:QM)(t:Rat):Nat->QM
 | 0=>ss
 | j+1=>fun i l=>SQ n M t j i l+TQ n M t (j+1) i l
theorem Pp(j:Nat):(eO (j:Int)).has ((j:Nat):Rat):=by have:=tC (j:Int);rwa[dc]at this
section
variable {m:List (List Iv)} {h:Iv} {M:QM} {t:Rat} {n p:Nat}
def ud(n:Nat)(A:QM)(b:Rat):Prop:=∀ i,i<n->et (fun l=>eA (A i l)) n<=b
theorem adR{A B:QM}{a b:Rat}(_h0:0<=a)(hb:0<=b)(h1:ud n A a)(h2:ud n B b):ud n (lR n A B) (a*b):=by
 intro i hi;have e1:et (fun l=>eA (lR n A B i l)) n<=et (fun l=>et (fun q=>eA (A i q)*eA (B q l)) n) n:=
  wW n fun l _=>by
   have:=xd (fun q=>A i q*B q l) n;rw[show(fun q=>eA (A i q*B q l))=fun q=>eA (A i q)*eA (B q l)from funext fun q=>sI _ _]at this;exact this
 rw[BP]at e1;have e2:et (fun q=>et (fun l=>eA (A i q)*eA (B q l)) n) n<=et (fun q=>eA (A i q)*b) n:=
  wW n fun q hq=>by
   rw[u6];exact bT (h2 q hq) (iQ _).1
 rw[y9]at e2;exact aU e1 (aU e2 (bJ (h1 i hi) hb))
def eQ(c:Rat):Nat->Rat
 | 0=>1
 | j+1=>eQ c j*(c/((j+1:Nat):Rat))
theorem uM(j:Nat):(0:Rat)<((j+1:Nat):Rat):=ahb.2 ae 
theorem Ls{a b:Rat}(h1:0<=a)(h2:0<b):0<=a/b:=by
 rw[b9];exact bk h1 (aZ (Rat.inv_pos.2 h2))
theorem qg{c:Rat}(h:0<=c):∀ j,0<=eQ c j
 | 0=>by simp only[eQ];decide
 | j+1=>bk (qg h j) (Ls h (uM j))
theorem aeO(n i:Nat):et (fun l=>eA (ss i l)) n<=1/\(n<=i->et (fun l=>eA (ss i l)) n=0):=by
 induction n with
 | zero=>exact⟨by simp only[et];grind,fun _=>rfl⟩
 | succ n ih=>
  have e1:eA 1=1:= ag ;simp only[et,ss]at ih ⊢;by_cases h:i=n
  .have:=ih.2 ae 
   rw[this,aC h,e1];exact⟨ aq,fun h'=>absurd h' ae⟩
  .rw [aB h,J4,Rat.add_zero]
   exact⟨ih.1,fun h'=>ih.2 ae⟩
theorem adO{A:QM}{b:Rat}(h:ud n A b){i l:Nat}(hi:i<n)(hl:l<n):eA (A i l)<=b:=by
 have h1:=h i hi;have:∀ m,l<m->eA (A i l)<=et (fun l=>eA (A i l)) m:=by
  intro m hm
  induction m with
  | zero=>omega
  | succ m ih=>
   rw[et];have h0:=wX m (f:=fun l=>eA (A i l)) fun i _=>(iQ _).1
   have h2:=(iQ (A i m)).1;by_cases hq:l=m
   .subst hq;grind
   .have:=ih ae;grind
 exact aU (this n hl) h1
end
open Go.RowKit Fp Pu
theorem Eo(g:Nat->Nat->Rat):∀ m,et (fun j=>et (g j) (m-j)) m=et (fun s=>et (fun j=>g j (s-j)) (s+1)) m
 | 0=>rfl
 | m+1=>by
  have ih:=Eo g m;have e1:et (fun j=>et (g j) (m+1-j)) m=et (fun j=>et (g j) (m-j)+g j (m-j)) m:=
   lF m fun j hj=>by rw[show m+1-j=m-j+1 by omega];rfl
  have h1:et (g m) (m+1-m)=g m 0:=by
   rw[show m+1-m=0+1 by omega];simp only[et];grind
  have h2:et (fun j=>g j (m-j)) (m+1)=et (fun j=>g j (m-j)) m+g m (m-m):=rfl;show et (fun j=>et (g j) (m+1-j)) m+et (g m) (m+1-m)=et (fun s=>et (fun j=>g j (s-j)) (s+1)) m+et (fun j=>g j (m-j)) (m+1);rw[e1,BO,h1,h2,ih,cW]
  grind
theorem BQ{f:Nat->Rat}(h:∀ i,0<=f i){m k:Nat}(hk:m<=k):et f m<=et f k:=by
 induction k with
 | zero=>
  have:m=0:= ae ;rw[this];exact bw
 | succ k ih=>
  by_cases hm:m=k+1
  .rw [hm];exact bw
  .have:=ih ae 
   have:=h k;rw[et];grind
theorem ze(f:Nat->Rat)(m:Nat):∀ d,et f (m+d)=et f m+et (fun i=>f (m+i)) d
 | 0=>by simp only[et,bd];grind
 | d+1=>by
  show et f (m+d)+f (m+d)=_;rw[ze f m d,et];grind
theorem CG(c:Rat)(j:Nat):eQ c (j+1)*((j+1:Nat):Rat)=c*eQ c j:=by
 have h:c/((j+1:Nat):Rat)*((j+1:Nat):Rat)=c:=cS (by have:=uM j;grind);simp only[eQ];grind
theorem Co(a b:Rat):∀ s,et (fun j=>eQ b j*eQ a (s-j)) (s+1)=eQ (a+b) s
 | 0=>by
  show 0+eQ b 0*eQ a 0=1;simp only[eQ];grind
 | s+1=>by
  have ih:=Co a b s;have hp:=uM s;have key:et (fun j=>eQ b j*eQ a (s+1-j)) (s+2)*((s+1:Nat):Rat)=(a+b)*eQ (a+b) s:=by
   have e0:et (fun j=>eQ b j*eQ a (s+1-j)) (s+2)*((s+1:Nat):Rat)=et (fun j=>(j:Rat)*(eQ b j*eQ a (s+1-j))+eQ b j*(((s+1-j:Nat):Rat)*eQ a (s+1-j))) (s+2):=by
    rw[<-y9];refine lF _ fun j hj=>?_
    have:((s+1:Nat):Rat)=(j:Rat)+((s+1-j:Nat):Rat):=by rw[<-df];congr 1;omega
    rw[this];grind
   rw[e0,BO];have e1:et (fun j=>(j:Rat)*(eQ b j*eQ a (s+1-j))) (s+2)=b*eQ (a+b) s:=by
    rw[Ri,<-ih,<-u6];have z:(((0:Nat):Rat))=0:=rfl;rw[z,Rat.zero_mul,Rat.zero_add];refine lF _ fun j hj=>?_
    have h1:=CG b j;rw[show s+1-(j+1)=s-j by omega]
    grind
   have e2:et (fun j=>eQ b j*(((s+1-j:Nat):Rat)*eQ a (s+1-j))) (s+2)=a*eQ (a+b) s:=by
    rw[show s+2=(s+1)+1 by omega,et,cW,<-ih,<-u6];have z:(((0:Nat):Rat))=0:=rfl;rw[z,Rat.zero_mul,Rat.mul_zero,Rat.add_zero];refine lF _ fun j hj=>?_
    have h1:=CG a (s-j);rw[show s+1-j=s-j+1 by omega]
    grind
   rw[e1,e2];grind
  have h2:=CG (a+b) s;have h3:et (fun j=>eQ b j*eQ a (s+1-j)) (s+2)*((s+1:Nat):Rat)=eQ (a+b) (s+1)*((s+1:Nat):Rat):=by rw[key,h2]
  exact agW (agU (by rw[h3];exact bw) hp) (agU (by rw[h3];exact bw) hp)
theorem zZ(c:Rat):∀ j,eA (eQ c j)=eQ (eA c) j
 | 0=>by simp only[eQ];decide
 | j+1=>by
  simp only[eQ];rw[sI,zZ c j];congr 1;rw[b9,b9,sI];congr 1;have:=Rat.inv_pos.2 (uM j);unfold eA;rw[aC (aZ this)]
def pQ(v:Rat):Nat->Rat
 | 0=>1
 | j+1=>pQ v j*v
theorem PI(v:Rat)(i:Nat):∀ j,pQ v (i+j)=pQ v i*pQ v j
 | 0=>by simp only[pQ,bd];grind
 | j+1=>by
  show pQ v (i+j)*v=_;rw[PI v i j,pQ];grind
theorem PJ{v:Rat}(h:0<=v):∀ j,0<=pQ v j
 | 0=>by simp only[pQ];decide
 | j+1=>bk (PJ h j) h
theorem FG(c v:Rat):∀ j,eQ (c*v) j=eQ c j*pQ v j
 | 0=>by simp only[eQ,pQ];grind
 | j+1=>by
  simp only[eQ,pQ];rw[FG c v j];simp only[b9];grind
theorem Kg(q:Rat):∃ n:Nat,q<=(n:Rat):=by
 refine⟨q.ceil.toNat,?_⟩;have h1:q<=(q.ceil:Rat):=Rat.le_ceil;have h2:((q.ceil:Int):Rat)<=((q.ceil.toNat:Nat):Rat):=by
  rw[<-dc,aha];omega
 exact aU h1 h2
theorem JA{z:Rat}{J:Nat}(hz:0<=z)(hJ:z*2<=(J:Rat)){m:Nat}(hm:J<=m):eQ z (m+1)*2<=eQ z m:=by
 have h0:=qg hz m;have h1:=CG z m;have hp:=uM m;have Ga:z*2<=((m+1:Nat):Rat):=aU hJ (cK.2 ae);apply agU (c:=((m+1:Nat):Rat)) _ hp;have h2:=bT Ga h0
 grind
theorem JB{z:Rat}{J:Nat}(hz:0<=z)(hJ:z*2<=(J:Rat)){m:Nat}(hm:J<=m):∀ d,et (fun i=>eQ z (m+i)) d+eQ z (m+d)*2<=eQ z m*2
 | 0=>by simp only[et,bd];grind
 | d+1=>by
  have ih:=JB hz hJ hm d;have h1:=JA hz hJ (show J<=m+d by omega);rw[et,show m+(d+1)=m+d+1 by omega]
  grind
theorem Rn{z:Rat}{J:Nat}(hz:0<=z)(hJ:z*2<=(J:Rat)):∀ r:Nat,eQ z (J+r)*((2^r:Nat):Rat)<=eQ z J
 | 0=> aj 
 | r+1=>by
  have ih:=Rn hz hJ r;have h1:=JA hz hJ (show J<=J+r by omega);have hp:(0:Rat)<=((2^r:Nat):Rat):=cj;have h2:=bJ h1 hp;rw[show(2^(r+1):Nat)=2^r*2 from aN _ _,cA,show J+(r+1)=J+r+1 by omega];have e:((2:Nat):Rat)=2:=rfl;rw[e];grind
theorem Ro{z ε:Rat}(hz:0<=z)(hε:0<ε):∃ m0,∀ m,m0<=m->∀ d,et (fun i=>eQ z (m+i)) d<=ε:=by
 obtain⟨J,hJ⟩:=Kg (z*2);obtain⟨r,hr⟩:=Kg (eQ z J*2/ε);refine⟨J+r,fun m hm d=>?_⟩;obtain⟨t,rfl⟩:∃ t,m=J+t:=⟨m-J, ae⟩
 have h1:=JB hz hJ (show J<=J+t by omega) d;have h2:=Rn hz hJ t;have h3:=qg hz (J+t+d);have h4:=qg hz (J+t);have mO:(r:Rat)<=((2^t:Nat):Rat):=cK.2 (cJ (bE (show r<=t by omega) Nat.lt_two_pow_self));have h5:eQ z J*2<=ε*((2^t:Nat):Rat):=by
  have h6:eQ z J*2/ε*ε=eQ z J*2:=cS aq;have h7:=bJ (aU hr mO) (aZ hε)
  grind
 have hp:(0:Rat)<((2^t:Nat):Rat):=ahb.2 (aJ ag);have h8:eQ z (J+t)*2<=ε:=by
  apply agU (c:=((2^t:Nat):Rat)) _ hp
  grind
 grind
def MP(n:Nat)(M:QM):Nat->QM
 | 0=>ss
 | j+1=>lR n (MP n M j) M
section
variable {n:Nat} {M:QM}
theorem EN(t:Rat):∀ j i l,TQ n M t j i l=eQ t j*MP n M j i l
 | 0,i,l=>by simp only[TQ,eQ,MP];grind
 | j+1,i,l=>by
  show t/((j+1:Nat):Rat)*et (fun q=>TQ n M t j i q*M q l) n=eQ t j*(t/((j+1:Nat):Rat))*et (fun q=>MP n M j i q*M q l) n;rw[lF n fun q _=>show TQ n M t j i q*M q l=eQ t j*(MP n M j i q*M q l)by rw[EN t j i q];grind,u6]
  grind
theorem zp(t:Rat)(i l:Nat):∀ N,SQ n M t N i l=et (fun j=>eQ t j*MP n M j i l) (N+1)
 | 0=>by simp only[SQ,et,eQ,MP];grind
 | N+1=>by
  show SQ n M t N i l+TQ n M t (N+1) i l=_;rw[zp t i l N,EN];rfl
theorem aa3(A:QM)(i:Nat){l:Nat}(hl:l<n):lR n A ss i l=A i l:=by
 have:∀ m,et (fun q=>A i q*ss q l) m=if l<m then A i l else 0:=by
  intro m
  induction m with
  | zero=>simp[et]
  | succ m ih=>
   rw[et,ih];unfold ss;by_cases h1:l<m
   .rw [aC h1,aB (show ¬m=l by omega),aC (show l<m+1 by omega)];grind
   .by_cases h2:m=l
    .subst h2;rw[aB h1,aC rfl,aC (show m<m+1 by omega)];grind
    .rw [aB h1,aB h2,aB (show ¬l<m+1 by omega)];grind
 unfold lR;rw[this,aC hl]
theorem aa2(A B C:QM)(i l:Nat):lR n A (lR n B C) i l=lR n (lR n A B) C i l:=by
 unfold lR;have e1:∀ q,A i q*et (fun r=>B q r*C r l) n=et (fun r=>A i q*(B q r*C r l)) n:=fun q=>(u6 _ _ n).symm
 have e2:∀ r,et (fun q=>A i q*B q r) n*C r l=et (fun q=>A i q*B q r*C r l) n:=fun r=>(y9 _ _ n).symm
 rw[lF n fun q _=>e1 q,lF (f:=fun q=>et (fun q_1=>A i q_1*B q_1 q) n*C q l) n fun r _=>e2 r,BP];exact lF n fun r _=>lF n fun q _=> aq 
theorem JS(j:Nat):∀ k i l,l<n->lR n (MP n M j) (MP n M k) i l=MP n M (j+k) i l
 | 0,i,l,hl=>aa3 _ i hl
 | k+1,i,l,hl=>by
  show lR n (MP n M j) (lR n (MP n M k) M) i l=lR n (MP n M (j+k)) M i l;rw[aa2];exact lF n fun q hq=>by rw[JS j k i q hq]
theorem JT{v:Rat}(hv:0<=v)(h:ud n M v):∀ j,ud n (MP n M j) (pQ v j)
 | 0=>fun i _=>(aeO n i).1
 | j+1=>adR (PJ hv j) hv (JT hv h j) h
theorem adP(n:Nat)(M:QM):∃ v,0<=v/\ud n M v:=by
 refine⟨et (fun i=>et (fun l=>eA (M i l)) n) n,wX n fun i _=>wX n fun l _=>(iQ _).1,fun i hi=>?_⟩;have:∀ m,i<m->et (fun l=>eA (M i l)) n<=et (fun i=>et (fun l=>eA (M i l)) n) m:=by
  intro m hm
  induction m with
  | zero=>omega
  | succ m ih=>
   rw[et];have h0:0<=et (fun l=>eA (M m l)) n:=wX n fun l _=>(iQ _).1
   have h1:0<=et (fun i=>et (fun l=>eA (M i l)) n) m:=wX m fun i _=>wX n fun l _=>(iQ _).1
   by_cases hq:i=m
   .subst hq;grind
   .have:=ih ae;grind
 exact this n hi
theorem abQ(a b:Rat)(N:Nat)(i:Nat){l:Nat}(hl:l<n):lR n (SQ n M b N) (SQ n M a N) i l=et (fun j=>et (fun k=>eQ b j*eQ a k*MP n M (j+k) i l) (N+1)) (N+1):=by
 unfold lR;have e1:∀ q,SQ n M b N i q*SQ n M a N q l=et (fun j=>et (fun k=>eQ b j*eQ a k*(MP n M j i q*MP n M k q l)) (N+1)) (N+1):=by
  intro q;rw[zp,zp,<-y9];refine lF _ fun j _=>?_
  rw[<-u6];exact lF _ fun k _=> aq 
 rw[lF n fun q _=>e1 q,BP];refine lF _ fun j _=>?_
 rw[BP];refine lF _ fun k _=>?_
 rw[<-JS j k i l hl,u6];rfl
theorem afn(a b:Rat)(N:Nat)(i l:Nat):et (fun j=>et (fun k=>eQ b j*eQ a k*MP n M (j+k) i l) (N+1-j)) (N+1)=SQ n M (a+b) N i l:=by
 rw[Eo (fun j k=>eQ b j*eQ a k*MP n M (j+k) i l),zp];refine lF _ fun s _=>?_
 rw[<-Co,<-y9];exact lF _ fun j hj=>by rw[show j+(s-j)=s by omega]
theorem Q8(g:Nat->Nat->Rat)(m:Nat):et (fun j=>et (g j) m) m=et (fun j=>et (g j) (m-j)) m+et (fun j=>et (fun k=>g j (m-j+k)) j) m:=by
 rw[<-BO];refine lF _ fun j hj=>?_
 rw[<-ze,show m-j+j=m by omega]
theorem XB{v:Rat}(hv:0<=v)(h:ud n M v)(a b:Rat)(N:Nat){i l:Nat}(hi:i<n)(hl:l<n):
 eA (lR n (SQ n M b N) (SQ n M a N) i l-SQ n M (a+b) N i l)<=et (fun s=>eQ (eA a*v+eA b*v) (N+1+s)) (N+1):=by
 have hx:0<=eA a*v:=bk (iQ a).1 hv;have hy:0<=eA b*v:=bk (iQ b).1 hv;have e1:lR n (SQ n M b N) (SQ n M a N) i l=SQ n M (a+b) N i l+et (fun j=>et (fun k=>eQ b j*eQ a (N+1-j+k)*MP n M (j+(N+1-j+k)) i l) j) (N+1):=by
  have:=Q8 (fun j k=>eQ b j*eQ a k*MP n M (j+k) i l) (N+1);rw[afn,<-abQ a b N i hl]at this;exact this
 have e2:lR n (SQ n M b N) (SQ n M a N) i l-SQ n M (a+b) N i l=et (fun j=>et (fun k=>eQ b j*eQ a (N+1-j+k)*MP n M (j+(N+1-j+k)) i l) j) (N+1):= aq ;rw[e2];have e3:eA (et (fun j=>et (fun k=>eQ b j*eQ a (N+1-j+k)*MP n M (j+(N+1-j+k)) i l) j) (N+1))<=et (fun j=>et (fun k=>eQ (eA b*v) j*eQ (eA a*v) (N+1-j+k)) j) (N+1):=by
  refine aU (xd _ _) (wW _ fun j _=>aU (xd _ _) (wW _ fun k _=>?_));rw[sI,sI,zZ,zZ,FG,FG];have hr:=adO (JT hv h (j+(N+1-j+k))) hi hl;rw[PI]at hr;have h1:=qg (iQ b).1 j;have h2:=qg (iQ a).1 (N+1-j+k);have h3:=bT hr (bk h1 h2)
  grind
 refine aU e3 ?_;have q1:et (fun j=>et (fun k=>eQ (eA b*v) j*eQ (eA a*v) k) (N+1)) (N+1)=et (fun j=>et (fun k=>eQ (eA b*v) j*eQ (eA a*v) k) (N+1-j)) (N+1)+et (fun j=>et (fun k=>eQ (eA b*v) j*eQ (eA a*v) (N+1-j+k)) j) (N+1):=
  Q8 (fun j k=>eQ (eA b*v) j*eQ (eA a*v) k) (N+1)
 have q2:et (fun j=>et (fun k=>eQ (eA b*v) j*eQ (eA a*v) k) (N+1-j)) (N+1)=et (fun s=>eQ (eA a*v+eA b*v) s) (N+1):=by
  rw[Eo (fun j k=>eQ (eA b*v) j*eQ (eA a*v) k)];exact lF _ fun s _=>Co _ _ s
 have G0:∀ j k,0<=eQ (eA b*v) j*eQ (eA a*v) k:=fun j k=>bk (qg hy j) (qg hx k)
 have q3:et (fun j=>et (fun k=>eQ (eA b*v) j*eQ (eA a*v) k) (N+1)) (N+1)<=et (fun s=>eQ (eA a*v+eA b*v) s) (N+1+(N+1)):=by
  rw[<-lF (f:=fun s=>et (fun j=>eQ (eA b*v) j*eQ (eA a*v) (s-j)) (s+1)) _ fun s _=>Co _ _ s,<-Eo (fun j k=>eQ (eA b*v) j*eQ (eA a*v) k)];refine aU (wW _ fun j hj=>BQ (fun k=>G0 j k) (show N+1<=N+1+(N+1)-j by omega)) ?_;exact BQ (fun j=>wX _ fun k _=>G0 j k) ae 
 rw[ze (fun s=>eQ (eA a*v+eA b*v) s) (N+1) (N+1),q1,q2]at q3;have cancel:∀ A B C:Rat,A+B<=A+C->B<=C:=by intro A B C h;grind
 exact cancel _ _ _ q3
theorem XC(n:Nat)(M:QM)(a b:Rat){ε:Rat}(hε:0<ε):∃ N0,∀ N,N0<=N->∀ i l,i<n->l<n->eA (lR n (SQ n M b N) (SQ n M a N) i l-SQ n M (a+b) N i l)<=ε:=by
 obtain⟨v,hv,h⟩:=adP n M;have hz:0<=eA a*v+eA b*v:=by
  have hx:0<=eA a*v:=bk (iQ a).1 hv;have hy:0<=eA b*v:=bk (iQ b).1 hv
  grind
 obtain⟨m0,h0⟩:=Ro hz hε;exact⟨m0,fun N hN i l hi hl=>aU (XB hv h a b N hi hl) (h0 (N+1) ae (N+1))⟩
theorem So(N:Nat)(i l:Nat):SQ n M 0 N i l=ss i l:=by
 induction N with
 | zero=>rfl
 | succ N ih=>
  show SQ n M 0 N i l+TQ n M 0 (N+1) i l=_;rw[ih,EN];simp only[eQ,b9];grind
end
open Go.RowKit Fp Pu
def kI(f:Nat->Rat)(X:Iv):Prop:=∀ ε,0<ε->∃ N0,∀ N,N0<=N->∃ r,X.has r/\eA (f N-r)<=ε
theorem kI.Iz{f:Nat->Rat}{X:Iv}{k:Nat}(h:∀ N,k<=N->X.has (f N)):kI f X:=fun ε hε=>
 ⟨k,fun N hN=>⟨f N,h N hN,by rw[Rat.sub_self,J4];exact aZ hε⟩⟩
theorem kI.all{f:Nat->Rat}{X:Iv}(h:X.all=true):kI f X:=kI.Iz (k:=0) fun _ _=>.inl h
theorem kI.shift{f g:Nat->Rat}{X:Iv}(h:kI f X)(k:∀ ε,0<ε->∃ N0,∀ N,N0<=N->eA (g N-f N)<=ε):kI g X:=fun ε hε=>by
 obtain⟨N1,h1⟩:=h (ε/2) aq;obtain⟨N2,h2⟩:=k (ε/2) aq;refine⟨max N1 N2,fun N hN=>?_⟩;obtain⟨r,hr,hd⟩:=h1 N ae;have hg:=h2 N ae;refine⟨r,hr,?_⟩;have:=J3 (g N-f N) (f N-r);rw[show g N-f N+(f N-r)=g N-r by grind]at this
 grind
def EQ(c:Rat)(N:Nat):Rat:=et (eQ c) (N+1)
theorem abq(j:Nat):MP 1 (fun _ _=>1) j 0 0=1:=by
 induction j with
 | zero=>rfl
 | succ j ih=>
  show et (fun q=>MP 1 (fun _ _=>1) j 0 q*1) 1=1;simp only[et];rw[ih];grind
theorem B9(c:Rat)(N:Nat):SQ 1 (fun _ _=>1) c N 0 0=EQ c N:=by
 rw[zp];exact lF _ fun j _=>by rw[abq];grind
theorem EI(a b:Rat){ε:Rat}(hε:0<ε):∃ N0,∀ N,N0<=N->eA (EQ (a+b) N-EQ a N*EQ b N)<=ε:=by
 obtain⟨N0,h0⟩:=XC 1 (fun _ _=>1) a b hε;refine⟨N0,fun N hN=>?_⟩;have:=h0 N hN 0 0 ag ag;rw[show lR 1 (SQ 1 (fun _ _=>1) b N) (SQ 1 (fun _ _=>1) a N) 0 0=EQ a N*EQ b N by
  show et (fun q=>SQ 1 (fun _ _=>1) b N 0 q*SQ 1 (fun _ _=>1) a N q 0) 1=_;simp only[et];rw[B9,B9];grind,B9]at this
 obtain⟨_,a2,a3,_⟩:=iQ (EQ a N*EQ b N-EQ (a+b) N);exact sH aq aq 
theorem Se(N:Nat):EQ 0 N=1:=by
 rw[<-B9,So];rfl
theorem Kk{x:Iv}{r s:Rat}(hx:x.Valid)(h:x.has r)(hs:eA s<=eA r):(my x).has s:=by
 unfold my;cases xa:x.all
 .obtain ⟨h1,h2⟩:=h.ends xa
  obtain⟨m1,m2,_⟩:=wD hx.q;obtain⟨_,a2,a3,a4⟩:=iQ r;obtain⟨_,b2,b3,_⟩:=iQ s;have hr:eA r<=(iY x).q:= aq ;refine .inr ⟨?_,?_⟩
  .show (eD (iY x)).q<=s
   rw[iB];grind
  .show s<=(iY x).q
   grind
 .rw [aC rfl];exact .inl xa
theorem zi{a b:Int}(h:a<=b):P2 a<=P2 b:=by
 rw[zj h];have h1:(1:Rat)<=((2^(b-a).toNat:Nat):Rat):=by
  have:=cK.2 (Nat.one_le_two_pow (n:=(b-a).toNat));exact this
 have:=bJ h1 (aZ (jr a))
 grind
open Go.RowKit Fp Pu
theorem two{i:Nat}(h:i<2):i=0\/i=1:= ae 
open Go.RowKit Fp Pu
open Go.RowKit Fp Pu
def Sf:Dy:=⟨false,1014047155841371404857783918912611814895143950022408150448898879701903863171748812343190420115852101928445847465915947005,-398⟩
def Sg:Dy:=⟨false,2028094311682742809715567837825223629790287900044816300897797759403807726343497624686380840231704203856891694931831894109,-399⟩
def HF:Iv:=⟨Sf,Sg,false⟩
theorem after{N:Nat}(h:100<=N):∃ d,N=100+d:=⟨N-100, ae⟩
def zq(k:Int):Rat×Rat:=if k%4=0 then(1,0)else if k%4=1 then(0,1)else if k%4=2 then(-1,0)else(0,-1)
open Go.RowKit Fp Pu
def gE(r:Iv)(p:Nat):Nat->Iv
 | 0=>eO 1
 | j+1=>gj (e9 (gE r p j) r p) (eO ((j+1:Nat):Int)) p
def Jl(r:Iv)(p j:Nat):Iv:=if 2<=j%4 then nG (gE r p j)else gE r p j
def Eg(r:Iv)(p:Nat):Nat->Iv
 | 0=>eO 0
 | j+1=>if(j+1)%2=1 then fp (Eg r p j) (Jl r p (j+1)) p else Eg r p j
theorem mq(n:Int):(lg n).q=P2 n:=by unfold lg;rw[mQ];simp
theorem qI{r:Iv}{p:Nat}(_hr:r.Valid)(dW:8<=p)(dR:p<=512):∀ j,(gE r p j).Valid
 | 0=>wH 1 ag 
 | j+1=>qU _ _ ae ae 
theorem ad7{r:Iv}{p:Nat}(hr:r.Valid)(dW:8<=p)(dR:p<=512)(j:Nat):(Jl r p j).Valid:=by
 unfold Jl;split
 .exact yL (qI hr dW dR j)
 .exact qI hr dW dR j
theorem QO{r:Iv}{p:Nat}(hr:r.Valid)(dW:8<=p)(dR:p<=512):∀ j,(Eg r p j).Valid
 | 0=>wH 0 ag 
 | j+1=>by
  unfold Eg;split
  .exact nN (QO hr dW dR j) (ad7 hr dW dR _) ae ae 
  .exact QO hr dW dR j
theorem Jm{r:Iv}{p:Nat}(hr:r.Valid)(dW:8<=p)(dR:p<=512){ρ:Rat}(h:r.has ρ):∀ j,j<4294967296->(gE r p j).has (eQ ρ j)
 | 0,_=>tC 1
 | j+1,hj=>by
  have e:eQ ρ (j+1)=eQ ρ j*ρ/((j+1:Nat):Rat):=by simp only[eQ,b9];grind
  rw[e];exact CB (nF _ _ ae ae) (It (j+1) hj) ae ae (DM (qI hr dW dR j) hr ae ae (Jm hr dW dR h j ae) h) (Pp (j+1))
theorem QP{r:Iv}{p:Nat}:∀ {j d:Nat},(gE r p (j+d)).all=false->(gE r p j).all=false
 | _,0,h=>h
 | j,d+1,h=>by
  apply QP (d:=d);cases ha:(gE r p (j+d)).all
  .rfl
  .exfalso
   have:gE r p (j+(d+1))=dV:=by
    show gj (e9 (gE r p (j+d)) r p) _ p=_;rw[yK p (.inl ha),vy p (.inl rfl)]
   rw[this]at h;cases h
open Go.RowKit Fp Pu
def kJ(n:Int):Iv:=⟨eD (lg n),lg n,false⟩
theorem xm{n:Int}{r:Rat}:(kJ n).has r ↔ -P2 n<=r/\r<=P2 n:=by
 unfold Iv.has kJ;simp only[aT,false_or];rw[iB,mq]
theorem ua{p:Nat}(hp:1<=p){n:Int}(h1:-1000<=n)(h2:n<=1000):G p (P2 n):=.inl ⟨1,n,by rw[rM];exact hp, ae,by rw[rM];omega, aj⟩
theorem zF{p:Nat}{S:Rat->Prop}{X:Iv}(h:tZ p S X)(hp:1<=p){n:Int}(h1:-1000<=n)(h2:n<=1000)(hs:∀ r,S r -> -P2 n<=r/\r<=P2 n):Sub X (kJ n):=by
 obtain⟨a,b,c⟩:=h.least _ _ (ua hp h1 h2).neg (ua hp h1 h2) hs;refine .inr ⟨a,?_,?_⟩
 .show (eD (lg n)).q<=_
  rw[iB,mq];exact b
 .show _<=(lg n).q
  rw[mq];exact c
theorem J5{a b u v:Rat}(h1:-u<=a)(h2:a<=u)(h3:-v<=b)(h4:b<=v):-(u*v)<=a*b/\a*b<=u*v:=by
 have ha:eA a<=u:=sH h2 aq;have hb:eA b<=v:=sH h4 aq;have hm:=sI a b;have h0:=(iQ b).1;have hu:0<=u:=aU (iQ a).1 ha;have m1:=bJ ha h0;have m2:=bT hb hu;obtain⟨_,c2,c3,_⟩:=iQ (a*b);constructor<;>grind
theorem MJ(j:Nat):P2 (-(j:Int))*P2 (-1)=P2 (-((j+1:Nat):Int)):=by
 rw[<-lG];congr 1;omega
theorem Vw{a u:Rat}{n:Nat}(h1:-u<=a)(h2:a<=u):-u<=a/((n+1:Nat):Rat)/\a/((n+1:Nat):Rat)<=u:=by
 have hp:=uM n;have Mn:(1:Rat)<=((n+1:Nat):Rat):=by
  have:=cK (a:=1) (b:=n+1);exact this.2 ae 
 have e:=cS (a:=a) (b:=((n+1:Nat):Rat)) aq;have hu:0<=u:= aq ;generalize a/((n+1:Nat):Rat)=x at *
 generalize ((n+1:Nat):Rat)=c at *
 constructor
 .apply cL.1
  intro ek;have m:=dg ek hp;have m2:=bT Mn hu
  grind
 .apply cL.1
  intro ek;have m:=dg ek hp;have m2:=bT Mn hu
  grind
theorem QR{y:Iv}(hy:y.Valid)(h:Sub y (kJ (-1))){p:Nat}(dW:8<=p)(dR:p<=512):∀ j,j<=900->Sub (gE y p j) (kJ (-(j:Int)))
 | 0,_=>by
  have e:(eO 1).lo.q=1/\(eO 1).hi.q=1/\(eO 1).all=false:=Po 1;refine .inr ⟨e.2.2,?_,?_⟩
  .show (eD (lg _)).q<=_
   rw[iB,mq,show(gE y p 0).lo.q=1 from e.1];decide +kernel
  .show _<=(lg _).q
   rw[mq,show(gE y p 0).hi.q=1 from e.2.1];decide +kernel
 | j+1,hj=>by
  have ih:=QR hy h dW dR j ae;have vT:=qI hy dW dR j;obtain⟨ta,_⟩:=ih.known rfl;obtain⟨ya,_⟩:=h.known rfl;have B:=Bc vT hy ta ya (show 1<=p by omega) ae;have s1:Sub (e9 (gE y p j) y p) (kJ (-((j+1:Nat):Int))):=zF B ae ae ae (by
   rintro r ⟨a,b,ha,hb,rfl⟩;obtain⟨a1,a2⟩:=xm.1 (ih.has ha);obtain⟨b1,b2⟩:=xm.1 (h.has hb);rw[<-MJ];exact J5 a1 a2 b1 b2)
  have vm:(e9 (gE y p j) y p).Valid:=nF _ _ ae ae;obtain⟨ma,_⟩:=s1.known rfl;have vn:=It (j+1) ae;have hs:jc (eO ((j+1:Nat):Int))≠0:=by rw[abo ae];decide
  exact zF (xA vm vn ma hs (show 1<=p by omega) ae) ae ae ae (by
   rintro r ⟨a,b,ha,hb,rfl⟩;obtain⟨a1,a2⟩:=xm.1 (s1.has ha);obtain⟨b1,b2⟩:=hb.ends rfl;have e:=Po (j+1);rw[e.1]at b1;rw[e.2.1]at b2;rw[show b=((j+1:Nat):Rat)from agW b2 b1];exact Vw a1 a2)
def kg(x:Iv)(p:Nat):Bool:=x.all||(decide ((iY x).m=0)||decide ((iY x).dX <= -(p:Int)))
theorem Ry{d:Dy}(hm:d.m≠0){n:Int}(h:eA d.q<=P2 n):d.dX<=n+1:=by
 apply bh;intro ek;have hT:d.dX=(dU d.m:Int)+d.e:=by unfold Dy.dX;rw[aB hm]
 have hb:0<dU d.m:=pM.2 (by rw[bG];omega);have h1:2^(dU d.m-1)<=d.m:=pM.1 ae;have h2:((2^(dU d.m-1):Nat):Rat)<=(d.m:Rat):=cK.2 h1;have h3:=bJ h2 (aZ (jr d.e));rw[<-rI,<-lG,show((dU d.m-1:Nat):Int)+d.e=d.dX-1 by rw[hT];omega]at h3;have h4:eA d.q=(d.m:Rat)*P2 d.e:=by
  have h0:0<=(d.m:Rat)*P2 d.e:=bk cj (aZ (jr _));rw[lW];unfold eA;cases d.neg
  .simp only[aT,aL];rw[aC h0]
  .simp only[aW]
   split<;>grind
 have h5:=zi (show n+1<=d.dX-1 by omega);have h6:P2 (n+1)=P2 n*2:=by rw[lG];congr 1
 have:=jr n
 grind
theorem Rt{x:Iv}(hx:x.Valid){p:Nat}(h:Sub x (kJ (-((p+1:Nat):Int)))):kg x p=true:=by
 unfold kg;cases ha:x.all
 .by_cases hm:(iY x).m=0
  .rw [aE hm];rfl
  .obtain ⟨_,k1,k2⟩:=h.known rfl
   obtain⟨m1,m2,m3⟩:=wD hx.q;replace k1:(eD (lg (-((p+1:Nat):Int)))).q<=x.lo.q:=k1;replace k2:x.hi.q<=(lg (-((p+1:Nat):Int))).q:=k2;rw[iB,mq]at k1;rw[mq]at k2;have hq:=hx.q;have lk:=jr (-((p+1:Nat):Int));generalize hu:P2 (-((p+1:Nat):Int))=u at *
   have hle:eA (iY x).q<=u:=sH (by rcases m3 with m3|m3<;>grind) (by rcases m3 with m3|m3<;>grind);have:=Ry hm (hu▸hle);rw[aE (show(iY x).dX <= -(p:Int)by omega)];simp
 .rfl
theorem QQ{y:Iv}(h:y.all=true)(p:Nat):gE y p 1=dV:=by
 show gj (e9 (eO 1) y p) _ p=_;rw[yK p (.inr h),vy p (.inl rfl)]
theorem Wm{y:Iv}(hy:y.Valid)(h:y.all=true\/Sub y (kJ (-1))){p:Nat}(dW:8<=p)(dR:p<=512):∃ N,1<=N/\N<=1000/\(∀ x,1<=x->x<N->kg (gE y p x) p=false)/\kg (gE y p N) p=true:=by
 have ex:∃ x,x<900/\decide (1<=x/\kg (gE y p x) p=true)=true:=by
  rcases h with h|h
  .exact ⟨1, ae,aE ⟨ ae,by rw[QQ h];rfl⟩⟩
  .exact ⟨p+1, ae,aE ⟨ ae,Rt (qI hy dW dR _) (QR hy h dW dR (p+1) ae)⟩⟩
 obtain⟨N,n1,n2,n3⟩:=oK (p:=fun x=>decide (1<=x/\kg (gE y p x) p=true)) ex;have n2':=bV n2;refine⟨N,n2'.1, ae,fun x h1 h2=>?_,n2'.2⟩;have:=aho (n3 x h2);cases hc:kg (gE y p x) p
 .rfl
 .exact absurd ⟨h1,hc⟩ this
def oZ(y:Iv)(p:Nat):Nat->Iv
 | 0=>eO 1
 | j+1=>fp (oZ y p j) (gE y p (j+1)) p
def sP(y:Iv)(p N:Nat):Iv:=fp (oZ y p N) (my (gE y p N)) p
theorem xB{y:Iv}(hy:y.Valid){p:Nat}(dW:8<=p)(dR:p<=512):∀ j,(oZ y p j).Valid
 | 0=>wH 1 ag 
 | j+1=>nN (xB hy dW dR j) (qI hy dW dR _) ae ae 
theorem Wl{y:Iv}(hy:y.Valid){p:Nat}(dW:8<=p)(dR:p<=512)(N:Nat):(sP y p N).Valid:=nN (xB hy dW dR N) (xj (qI hy dW dR N)) ae ae 
open Go.RowKit Fp Pu
def gW(x:Iv)(p:Nat):Iv:=if x.all then dV else gN (ff x.lo p false) (fg x.lo p false) (ff x.hi p true) (fg x.hi p true)
def py(a b:Iv):Iv:=if a.all||b.all then dV else⟨a.lo,b.hi,false⟩
theorem yY{x:Iv}(hx:x.Valid){p:Nat}(hp:1<=p)(dR:p<=4096):(gW x p).Valid:=by
 unfold gW;cases xa:x.all
 .obtain ⟨c1,c2⟩:=hx.qT
  simp only[aT,aL];unfold gN;split
  .exact gZ
  .rename_i he
   have A:=po c1 hp dR;have B:=pS c2 hp dR;refine .inr ⟨rfl,kq _ hp dR _,kq _ hp dR _,?_⟩;rw[ke];exact aU (A.1 ae).2 (aU hx.q (B.1 ae).2)
 .exact gZ
theorem BE{x:Iv}(hx:x.Valid){p:Nat}(hp:1<=p)(dR:p<=4096){r:Rat}(h:x.has r):(gW x p).has r:=by
 unfold gW;cases xa:x.all
 .obtain ⟨c1,c2⟩:=hx.qT
  obtain⟨h1,h2⟩:=h.ends xa;simp only[aT,aL];unfold gN;split
  .exact .inl rfl
  .rename_i he
   have A:=po c1 hp dR;have B:=pS c2 hp dR;exact .inr ⟨aU (A.1 ae).2 h1,aU h2 (B.1 ae).2⟩
 .exact .inl rfl
theorem adM{x:Iv}(hx:x.Valid){p:Nat}(hp:1<=p)(dR:p<=4096){n:Int}(h1:-1000<=n)(h2:n<=1000)(h:Sub x (kJ n)):Sub (gW x p) (kJ n):=by
 obtain⟨xa,k1,k2⟩:=h.known rfl;replace k1:(eD (lg n)).q<=x.lo.q:=k1;replace k2:x.hi.q<=(lg n).q:=k2;rw[iB,mq]at k1;rw[mq]at k2;obtain⟨c1,c2⟩:=hx.qT;have A:=(po c1 hp dR).2 _ (ua hp h1 h2).neg k1;have B:=(pS c2 hp dR).2 _ (ua hp h1 h2) k2;unfold gW gN;rw[xa];simp only[aT,aL];rw[aB ae];refine .inr ⟨rfl,?_,?_⟩
 .show (eD (lg n)).q<=_
  rw[iB,mq];exact A.2
 .show _<=(lg n).q
  rw[mq];exact B.2
theorem aaz{f g:Nat->Rat}{A B:Iv}(hA:kI f A)(hB:kI g B)(h:∀ ε,0<ε->∃ N0,∀ N,N0<=N->f N<=g N+ε)(aa:A.all=false)(ba:B.all=false):A.lo.q<=B.hi.q:=by
 apply cL.1;intro ek;obtain⟨ε,hε⟩:∃ ε,ε=(A.lo.q-B.hi.q)/4:=⟨_,rfl⟩
 have h0:0<ε:=by rw[hε];grind
 obtain⟨N1,h1⟩:=hA ε h0;obtain⟨N2,h2⟩:=hB ε h0;obtain⟨N3,h3⟩:=h ε h0;obtain⟨r,hr,hd⟩:=h1 (max N1 (max N2 N3)) ae;obtain⟨s,hs,he⟩:=h2 (max N1 (max N2 N3)) ae;have h4:=h3 (max N1 (max N2 N3)) ae;obtain⟨r1,r2⟩:=hr.ends aa;obtain⟨s1,s2⟩:=hs.ends ba;obtain⟨_,a2,a3,_⟩:=iQ (f (max N1 (max N2 N3))-r);obtain⟨_,b2,b3,_⟩:=iQ (g (max N1 (max N2 N3))-s)
 grind
theorem Sd{c:Rat}(h:0<=c)(N:Nat):1<=EQ c N:=by
 have:=BQ (f:=eQ c) (fun i=>qg h i) (show 1<=N+1 by omega);have e:et (eQ c) 1=1:=by show 0+1=1;grind
 unfold EQ;rw[e]at this;exact this
theorem Sc(c:Rat){ε:Rat}(hε:0<ε):∃ N0,∀ N,N0<=N -> -ε<=EQ c N:=by
 obtain⟨N0,h0⟩:=EI (c/2) (c/2) hε;rw[show c/2+c/2=c by grind]at h0;refine⟨N0,fun N hN=>?_⟩;have h:=h0 N hN;have hs:0<=EQ (c/2) N*EQ (c/2) N:=by
  by_cases k:0<=EQ (c/2) N
  .exact bk k k
  .have:=bk (show 0 <= -EQ (c/2) N by grind) (show 0 <= -EQ (c/2) N by grind)
   grind
 obtain⟨_,a2,a3,_⟩:=iQ (EQ c N-EQ (c/2) N*EQ (c/2) N)
 grind
theorem R9{c:Rat}(h:0<=c):∃ M:Rat,0<M/\∀ N,EQ c N<=M:=by
 obtain⟨m0,h0⟩:=Ro h (show(0:Rat)<1 by decide);have hs:0<=et (eQ c) m0:=by
  have:=BQ (f:=eQ c) (fun i=>qg h i) (bq m0);exact this
 refine⟨et (eQ c) m0+1, aq,fun N=>?_⟩;unfold EQ;by_cases hN:m0<=N+1
 .obtain ⟨d,hd⟩:∃ d,N+1=m0+d:=⟨N+1-m0, ae⟩
  rw[hd,ze];have:=h0 m0 (aG _) d
  grind
 .have:=BQ (f:=eQ c) (fun i=>qg h i) (show N+1<=m0 by omega)
  grind
theorem Sb{a b:Rat}(h:a<=b){ε:Rat}(hε:0<ε):∃ N0,∀ N,N0<=N->EQ a N<=EQ b N+ε:=by
 have hd:0<=b-a:= aq ;obtain⟨N1,h1⟩:=EI a (b-a) (show 0<ε/2 by grind);rw[show a+(b-a)=b by grind]at h1;obtain⟨M,oC,hM⟩:∃ M:Rat,0<M/\∀ N,EQ (b-a) N<=M:=R9 hd;obtain⟨N2,h2⟩:=Sc a (show 0<ε/(2*M)by rw[b9];exact de hε (Rat.inv_pos.2 aq));refine⟨max N1 N2,fun N hN=>?_⟩;have k1:=h1 N ae;have k2:=h2 N ae;have e:ε/(2*M)*M=ε/2:=by
  have:=cS (a:=ε) (b:=2*M) aq 
  grind
 have k3:=Sd hd N;have k4:=hM N;obtain⟨_,a2,a3,_⟩:=iQ (EQ b N-EQ a N*EQ (b-a) N);generalize EQ a N=x at *
 generalize EQ (b-a) N=y at *
 generalize EQ b N=z at *
 generalize ε/(2*M)=δ at *
 have m1:=bk (show 0<=x+δ by grind) (show 0<=y-1 by grind);have hδ:0<=δ:=by
  apply cL.1;intro ek;have:=dg ek oC
  grind
 have m2:=bT (show y-1<=M by grind) hδ
 grind
end Go.Proofs.YtdgnpeddgdclhaaGreatDoor
