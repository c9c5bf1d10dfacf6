/- Lemmas that the last file uses. -/
import Derived.Test.YtdgnpeddgdclhaaGreatDoorM01
import Derived.Deep.DeepCutAuto
import Derived.Deep.Slices
import Derived.Carry
import Derived.Scope
set_option linter.unusedSimpArgs false
set_option linter.unusedVariables false
set_option linter.defProp false
set_option maxHeartbeats 4000000
namespace Go.Proofs.YtdgnpeddgdclhaaGreatDoor
open Go.RowKit Fp
theorem MX(n c:Nat)(hc:n<=c)(hn:c<=10000000000)(w:World):
 (Instr.makeSlice 29 (.int .i64 (n:Int)) (.int .i64 (c:Int))).run Tryz.prog w = .ok (.slice (some ⟨w.heap.size,0,none⟩) n c) (w.alloc (.cells (nZ (List.replicate c 0)).toArray 79)):=by
 obtain⟨i,hi,hz,h1,h2⟩:=info_parts My;have hr:=run_make (P:=Tryz.prog) w 29 79 i _ Tryz.underlying29 hi hz .i64 .i64 n c ae ae (by rw[h2];omega) ae;rw[hr,fA,fA,h1,bO];refine congrArg (fun cs=>Result.ok (Value.slice (some ⟨w.heap.size,0,none⟩) n c) (w.alloc (.cells cs 79))) ?_;apply Array.ext
 .simp [madeCells,nZ]
 .intro i h1 h2
  simp[madeCells,nZ,Value.cells,cH]
theorem Ow.xw(w:World)(base n c:Nat)(hb:base<=w.heap.size)(hc:n<=c)(hn:c<=10000000000):
 Ow (w.alloc (.cells (nZ (List.replicate c 0)).toArray 79)) base (.slice (some ⟨w.heap.size,0,none⟩) n c) (List.replicate n 0):=
 ⟨⟨by simp[nZ],.inr ⟨w.heap.size,c,_,aj,hb,heap_alloc_new w _,by simpa using hc,by simp only[maxLen];omega,by simp[nZ],by
  simp[nZ,List.take_replicate,cR hc]⟩⟩,iC.BS n⟩
theorem iy.own{w w1 w2:World}(h:iy w w1)(v:Value)(L:List Nat)(ho:Ow w1 w.heap.size v L)(hg:w1.grownBy w2 v.ownBlock):iy w w2:=
 h.grown hg h.size (fun k hk=>(ho.row.lt k hk).1)
theorem Oj(x q s:Nat)(hx:x<4294967296)(hs:s<32)(hq:q<2^s):
 bits BinOp.or IntKind.u64 (IntKind.u64.wrap ((x:Int)*2^s)) (q:Int)=((x*2^s+q:Nat):Int)/\x*2^s+q<18446744073709551616/\(x*2^s+q)/4294967296<2^s:=by
 have hp:2^s<=2^31:=bh ag ae;have e31:(2:Nat)^31=2147483648:= ag ;have h1:(x+1)*2^s<=4294967296*2^s:=bC _ hx;rw[bK,bI]at h1;have h2:x*2^s<4294967296*2^s:=cC hx (aY ag);refine⟨?_,ae,ae⟩;have e:((x:Int)*2^s)=((x*2^s:Nat):Int):= aj ;rw[e,IntKind.wrap_u64,show((x*2^s:Nat):Int)%18446744073709551616=((x*2^s:Nat):Int)by omega,JO _ _ ae ae,fF,Ar q x s hq,dV]
theorem U8(A:Option Addr)(c:Nat)(L:List Nat)(n:Nat)(w:World)(hs:Sl w A c L)(hlen:L.length<=100000000)(hn:n<=65536):
 Calls Tryz.prog 204 #[.slice A L.length c,.int .i64 n] w (fun e w'=>∃ T,val T=val L*2^n/\iC T/\T.length=n/32+(ik L).length+1/\sX w T e w'):=by
 have hT:=Lib.hid (uj A c L w hs);have kD:=hs.tE;have ns:=oH L;have hC:=kD.cap;have hL:=hs.qe;unfold lV at ns;have hv:=Lib.hid (ot L);generalize ik L=M at *
 obtain⟨m,hm⟩:∃ m,m=M.length:=⟨_,rfl⟩
 rw[<-hm]at hT ns hC;have HM:=Lib.hid hm;clear hm;have oW:=MX (n/32) (n/32+m+1) ae ae;rw[show((n/32:Nat):Int)=(n:Int)/32 by omega,show((n/32+m+1:Nat):Int)=(n:Int)/32+m+1 by omega]at oW;have Em:=Lib.hid (Ow.xw w w.heap.size (n/32) (n/32+m+1) (aU _) ae ae);go_enter Tryz.func204,Tryz.ntmps204;go_wp2_with fail;refine hT.out.mono ?_;rintro e w' ⟨rfl,rfl⟩;go_wp2;go_loopw [5,6,23] (fun v cy i wr=>∃ (k q:Nat) (O:List Nat),k<=m/\i = .int .i64 k/\cy = .int .u64 q/\q<2^(n%32)/\O.length=n/32+k/\val O+4294967296^(n/32+k)*q=val (M.take k)*2^(n%32)*4294967296^(n/32)/\Ow wr w.heap.size v O/\iy w wr) (fun _ _ i _=>m-(intOf i).toNat)
 case atStart=>
  exact⟨0,0,List.replicate (n/32) 0,bL _,rfl,rfl,aY ag,aj,by simp[y9],Em.out,iy.alloc _ _⟩
 case round=>
  obtain⟨k,q,O,hk,rfl,rfl,hq,hO,kY,lg,hb⟩:=hrel;have HV:=Lib.hid kY;have HO:=Lib.hid hO;have El:O.length<=200000000:= ae ;have tZ:=Lib.hid hq;clear kY hO hq;obtain⟨OA,Oc,rfl,yy⟩:=lg.sl;by_cases iD:k<m
  .have oV:k<M.length:=by have:=HM.out;omega
   obtain⟨ab,ao,rfl,_,c1⟩:=(kD.below hb).lr oV;have mB:M[k]<4294967296:=kD.ok.get oV;have HX:=Lib.hid (Oi (c:=q) (s:=n%32) (n0:=n/32) oV HO.out HV.out);generalize M[k]=x at *
   obtain⟨hw,yD,tw⟩:=Oj x q (n%32) mB (bg _ ag) tZ.out;generalize x*2^(n%32)+q=z at *
   have EO:=Lib.hid tw;clear tw;have lK:O.length+[z%4294967296].length<=10000000000:= av ;go_wp2_with (at_builtin;go_must (refine qW ai _ _ ai w.heap.size _ O ai (lg.alloc _) _ _ _ [z%4294967296] ai ai (Sl.sT _ _ (z%4294967296) ae ae) lK (qd hb.size _) ?_);intro v' w1 oz hg oQ)
   go_roundw
   case rel=>
    exact⟨k+1,z/4294967296,O++[z%4294967296],ae,by go_num,by go_num,EO.out,by rw[cg,HO.out];rfl,HX.out,oz,(hb.trans (iy.alloc _ _)).own _ _ (lg.alloc _) hg⟩
   case measure=>simp[intOf];omega
  .obtain rfl:k=m:= ae 
   have lK:O.length+[q].length<=10000000000:= av ;have Iu:q<4294967296:=by
    have:=tZ.out;have hp:2^(n%32)<=2^31:=bh ag ae;have e31:(2:Nat)^31=2147483648:= ag ;omega
   have Td:(q:Int)%4294967296=q:= ae ;go_wp2_with (at_builtin;go_must (refine qW ai _ _ ai w.heap.size _ O ai (lg.alloc _) _ _ _ [q] ai ai (Sl.sT _ _ q ae ae) lK (qd hb.size _) ?_);intro v' w1 oz hg oQ)
   obtain⟨A',c',rfl,mK⟩:=oz.sl;go_ret;refine⟨O++[q],?_,mK.ok,by rw[cg,HO.out,<-HM.out];rfl,A',c',rfl,mK,(hb.trans (iy.alloc _ _)).own _ _ (lg.alloc _) hg⟩;have h:=HV.out;rw[ck (by rw[HM.out];exact aU _)]at h;rw[uC,HO.out,qA,y7,cr,bt,h,<-hv.out,nF,bc,<-aV];congr 2;omega
theorem U1(A:Option Addr)(c:Nat)(L:List Nat)(n:Nat)(w:World)(hs:Sl w A c L)(hlen:L.length<=256)(hn:n<=65536)(og:(gV (val L*2^n)).length<=256):
 Calls Tryz.prog 168 #[.slice A L.length c,.int .i64 n] w (B9 w (gV (val L*2^n)) 0):=by
 have H1:=Lib.hid (fun w (h:Sl w A c L)=>U8 A c L n w h ae hn);obtain⟨R,hR⟩:∃ R,R=gV (val L*2^n):=⟨_,rfl⟩
 rw[<-hR]at og ⊢;have HR:=Lib.hid hR;clear hR;go_enter Tryz.func168,Tryz.ntmps168;go_wp2_with fail;refine(MU _ A _ c _ false (OZ _ _ _ _) av).mono ?_;rintro e w' ⟨rfl,rfl⟩;go_wp2_with fail;refine(H1.out _ (hs.alloc _)).mono ?_;rintro e w' ⟨T,hT,En,-,A',c',rfl,mK,hb⟩;have h3:=Lib.hid (show ik T=R by rw[qy En,hT,HR.out]);clear hT En;go_wp2_with fail;refine(Fg A' c' T _ mK (by rw[h3.out];exact og)).mono ?_;rintro e w'' ⟨A'',c'',rfl,qH,mP⟩;go_wp2;go_ret2;rw[<-h3.out];exact⟨A'',c'',rfl,qH,(iy.alloc _ _).trans (hb.trans mP)⟩
theorem akb(A:Option Addr)(c:Nat)(L:List Nat)(n:Nat)(w:World)(hs:Sl w A c L)(hlen:L.length<=256)(hn:n<=65536)(og:(gV (val L*2^n)).length<=256):
 Calls Tryz.prog 132 #[.slice A L.length c,.int .i64 n] w (sX w (gV (val L*2^n))):=by
 have H1:=Lib.hid (U1 A c L n w hs hlen hn og);generalize gV (val L*2^n)=R at *
 go_enter Tryz.func132,Tryz.ntmps132;go_wp2_with fail;refine H1.out.mono ?_;rintro e w'' ⟨A'',c'',rfl,qH,mP⟩;go_wp2;go_ret;exact⟨A'',c'',rfl,qH,mP⟩
open Go.RowKit Fp
theorem OG(a b:Nat)(ha:a<18446744073709551616)(hb:b<18446744073709551616):bits .and .u64 (a:Int) (b:Int)=((a &&& b:Nat):Int):=by
 have hx:a &&& b<2^64:=fe _ ae;have h1:(BitVec.ofInt 64 (a:Int)).toNat=a:=by
  rw[fZ,gh];exact bu ae 
 have h2:(BitVec.ofInt 64 (b:Int)).toNat=b:=by
  rw[fZ,gh];exact bu ae 
 show IntKind.u64.wrap ((BitVec.ofInt 64 (a:Int) &&& BitVec.ofInt 64 (b:Int)).toNat:Int)=_;rw[BitVec.toNat_and,h1,h2,IntKind.wrap_u64];omega
theorem vJ(z:Nat)(hz:z<18446744073709551616):bits BinOp.and IntKind.u64 (z:Int) 4294967295=(z:Int)%4294967296:=by
 have e:(4294967295:Int)=((4294967295:Nat):Int):=rfl;rw[e,OG z _ hz ae,show(4294967295:Nat)=2^32-1 by decide,amG];simp
theorem ai6(A:Option Addr)(c:Nat)(M:List Nat)(n:Nat)(w:World)(kD:Sl w A c M)(hlen:M.length<=1000)(hn:n<=65536):
 Calls Tryz.prog 148 #[.slice A M.length c,.int .i64 n] w (sX w (gV (val M*2^n))):=by
 have hC:=kD.cap;have hL:=kD.qe;obtain⟨m,hm⟩:∃ m,m=M.length:=⟨_,rfl⟩
 rw[<-hm]at hlen hC ⊢;have HM:=Lib.hid hm;clear hm;have oW:=MX (n/32) (n/32) ae ae;rw[show((n/32:Nat):Int)=(n:Int)/32 by omega]at oW;have Em:=Lib.hid (Ow.xw w w.heap.size (n/32) (n/32) (aU _) ae ae);go_enter Tryz.func148,Tryz.ntmps148;go_wp2;go_loopw [5,6,7] (fun v cy i wr=>∃ (k q:Nat) (O:List Nat),k<=m/\i = .int .i64 k/\cy = .int .u64 q/\q<2^(n%32)/\O.length=n/32+k/\val O+4294967296^(n/32+k)*q=val (M.take k)*2^(n%32)*4294967296^(n/32)/\Ow wr w.heap.size v O/\iy w wr) (fun _ _ i _=>m-(intOf i).toNat)
 case atStart=>
  exact⟨0,0,List.replicate (n/32) 0,bL _,rfl,rfl,aY ag,aj,by simp[y9],Em.out,iy.alloc _ _⟩
 case round=>
  obtain⟨k,q,O,hk,rfl,rfl,hq,hO,kY,lg,hb⟩:=hrel;have HV:=Lib.hid kY;have HO:=Lib.hid hO;have El:O.length<=3100:= ae ;have tZ:=Lib.hid hq;clear kY hO hq;obtain⟨OA,Oc,rfl,yy⟩:=lg.sl;by_cases iD:k<m
  .have oV:k<M.length:=by have:=HM.out;omega
   obtain⟨ab,ao,rfl,_,c1⟩:=(kD.below hb).lr oV;have mB:M[k]<4294967296:=kD.ok.get oV;have HX:=Lib.hid (Oi (c:=q) (s:=n%32) (n0:=n/32) oV HO.out HV.out);generalize M[k]=x at *
   obtain⟨hw,yD,tw⟩:=Oj x q (n%32) mB (bg _ ag) tZ.out;generalize x*2^(n%32)+q=z at *
   have EO:=Lib.hid tw;clear tw;have lK:O.length+[z%4294967296].length<=10000000000:= av ;have tW:=vJ z yD;go_wp2_with (at_builtin;go_must (refine qW ai _ _ ai w.heap.size _ O ai (lg.alloc _) _ _ _ [z%4294967296] ai ai (Sl.sT _ _ (z%4294967296) ae ae) lK (qd hb.size _) ?_);intro v' w1 oz hg oQ)
   go_roundw
   case rel=>
    exact⟨k+1,z/4294967296,O++[z%4294967296],ae,by go_num,by go_num,EO.out,by rw[cg,HO.out];rfl,HX.out,oz,(hb.trans (iy.alloc _ _)).own _ _ (lg.alloc _) hg⟩
   case measure=>simp[intOf];omega
  .obtain rfl:k=m:= ae 
   have lK:O.length+[q].length<=10000000000:= av ;have Iu:q<4294967296:=by
    have:=tZ.out;have hp:2^(n%32)<=2^31:=bh ag ae;have e31:(2:Nat)^31=2147483648:= ag ;omega
   have Td:(q:Int)%4294967296=q:= ae ;have we:Hid (ik (O++[q])=gV (val M*2^n)):=by
    show ik (O++[q])=gV (val M*2^n);rw[qy (lg.ok.append (iC.cons Iu iC.nil))];have h:=HV.out;rw[ck (by rw[HM.out];exact aU _)]at h;rw[uC,HO.out,qA,y7,cr,bt,h,nF,bc,<-aV];congr 3;omega
   go_wp2_with (at_builtin;go_must (refine qW ai _ _ ai w.heap.size _ O ai (lg.alloc _) _ _ _ [q] ai ai (Sl.sT _ _ q ae ae) lK (qd hb.size _) ?_);intro v' w1 oz hg oQ;obtain⟨P,hP⟩:∃ P,P=O++[q]:=⟨_,rfl⟩;rw[<-hP]at oz we;have Hr:P.length<=3101:=(by rw[hP];simp;omega);clear hP;obtain⟨A',c',rfl,mK⟩:=oz.sl)
   refine(BR A' c' P _ mK ae).mono ?_;rintro e w' ⟨A'',c'',rfl,qH,mP⟩;go_wp2;go_ret;rw[<-we.out];exact⟨A'',c'',rfl,qH,((hb.trans (iy.alloc _ _)).own _ _ (lg.alloc _) hg).trans mP⟩
open Go.RowKit Fp
theorem akl(x y s:Nat)(hx:x<4294967296)(hy:y<4294967296):
 bits BinOp.and IntKind.u64 (bits BinOp.or IntKind.u64 (x:Int) ((y:Int)*4294967296)/2^s) 4294967295=(((x+4294967296*y)/2^s%4294967296:Nat):Int):=by
 have e:((y:Int)*4294967296)=((y*2^32:Nat):Int):= aj ;rw[e,JO x (y*2^32) ae ae,Ar x y 32 ae];have h:(x+y*2^32)/2^s<18446744073709551616:=bQ (bw _ _) ae;have h2:=vJ _ h;rw[show(((x+y*2^32:Nat):Int)/2^s)=(((x+y*2^32)/2^s:Nat):Int)by simp,h2];simp[a7]
theorem akk(x s:Nat)(hx:x<4294967296):bits BinOp.and IntKind.u64 ((x:Int)/2^s) 4294967295=(((x+4294967296*0)/2^s%4294967296:Nat):Int):=by
 have h:x/2^s<18446744073709551616:=bQ (bw _ _) ae;rw[show((x:Int)/2^s)=((x/2^s:Nat):Int)by simp,vJ _ h];simp
theorem ajd(A:Option Addr)(c:Nat)(M:List Nat)(n:Nat)(w:World)(kD:Sl w A c M)(hlen:M.length<=3000)(hn:n<=100000):
 Calls Tryz.prog 124 #[.slice A M.length c,.int .i64 n] w (sX w (gV (val M/2^n))):=by
 have hC:=kD.cap;have hL:=kD.qe;have we:Hid (ik (qx (n%32) (M.drop (n/32)))=gV (val M/2^n)):=by
  show _=_;rw[qy (An _ _),JU kD.ok]
 obtain⟨R,hR⟩:∃ R,R=gV (val M/2^n):=⟨_,rfl⟩
 rw[<-hR]at we ⊢;clear hR;obtain⟨m,hm⟩:∃ m,m=M.length:=⟨_,rfl⟩
 rw[<-hm]at hlen hC ⊢;have HM:=Lib.hid hm;clear hm;by_cases h0:m<=n/32
 .go_enter Tryz.func124,Tryz.ntmps124
  go_wp2;go_ret;have:M.drop (n/32)=[]:=dQ (by rw[<-HM.out];exact h0);have h:=we.out;rw[this]at h;rw[<-h];exact⟨none,0,rfl,Sl.nil _,iy.refl _⟩
 .obtain ⟨ab,ao,rfl,_,_⟩:=kD.lr (i:=0) (by have:=HM.out;omega)
  have hK:=kD.drop (n/32);have tO:=Lib.hid (show m-n/32=(M.drop (n/32)).length by rw[ep,HM.out]);have rM:n/32<c:= ae ;have mG:0<m-n/32:= ae ;have tc:m-n/32<=3000:= ae ;generalize M.drop (n/32)=K at *
  simp only[cJ,AP]at hK;have vW:=Lib.hid (JA (n%32) K);have LA:=Lib.hid (Xh (n%32) K);have En:=Lib.hid (An (n%32) K);generalize qx (n%32) K=T at *
  go_enter Tryz.func124,Tryz.ntmps124;go_wp2;go_loopw [5,6] (fun v i wr=>∃ (k:Nat) (O:List Nat),k<=m-n/32/\i = .int .i64 k/\O=T.take k/\Ow wr w.heap.size v O/\iy w wr) (fun _ i _=>m-n/32-(intOf i).toNat)
  case atStart=>
   exact⟨0,[],bL _,rfl,aj,Ow.nil _ _,iy.refl _⟩
  case round=>
   obtain⟨k,O,hk,rfl,hO,lg,hb⟩:=hrel;have El:O.length<=3000:=by rw[hO,bY];omega
   have HO:=Lib.hid hO;clear hO;obtain⟨OA,Oc,rfl,yy⟩:=lg.sl;by_cases iD:k<m-n/32
   .have tU:k<K.length:=by have:=tO.out;omega
    obtain⟨ab',ao',e',_,c1⟩:=(hK.below hb).lr tU;cases e';have hg:=LA.out k tU;have mB:K[k]<4294967296:=hK.ok.get tU;have HK:=Lib.hid (bd tU);by_cases zV:k+1<m-n/32
    .have yo:k+1<K.length:=by have:=tO.out;omega
     obtain⟨ab',ao',e',_,c2⟩:=(hK.below hb).lr yo;cases e';have hy:K.getD (k+1) 0=K[k+1]:=by rw[aW,bd yo];rfl
     rw[hy]at hg;have px:K[k+1]<4294967296:=hK.ok.get yo;have HG:=Lib.hid hg;clear hg hy;generalize K[k]=x at *
     generalize K[k+1]=y at *
     clear tU yo;have hw:=akl x y (n%32) mB px;have hz:(x+4294967296*y)/2^(n%32)%4294967296<4294967296:=bg _ ag;generalize (x+4294967296*y)/2^(n%32)%4294967296=z at *
     have lK:O.length+[z].length<=10000000000:= av ;go_wp2_with (at_builtin;go_must (refine qW ai _ _ ai w.heap.size _ O ai (lg.alloc _) _ _ _ [z] ai ai (Sl.sT _ _ z ae ae) lK (qd hb.size _) ?_);intro v' w1 oz hg oQ)
     go_roundw
     case rel=>
      exact⟨k+1,O++[z],ae,by go_num,by rw[HO.out,amH,HG.out];rfl,oz,(hb.trans (iy.alloc _ _)).own _ _ (lg.alloc _) hg⟩
     case measure=>simp[intOf];omega
    .have hy:K.getD (k+1) 0=0:=by rw[aW,bV (by have:=tO.out;omega)];rfl
     rw[hy]at hg;have HG:=Lib.hid hg;clear hg hy;generalize K[k]=x at *
     clear tU;have hw:=akk x (n%32) mB;have hz:(x+4294967296*0)/2^(n%32)%4294967296<4294967296:=bg _ ag;generalize (x+4294967296*0)/2^(n%32)%4294967296=z at *
     have lK:O.length+[z].length<=10000000000:= av ;go_wp2_with (at_builtin;go_must (refine qW ai _ _ ai w.heap.size _ O ai (lg.alloc _) _ _ _ [z] ai ai (Sl.sT _ _ z ae ae) lK (qd hb.size _) ?_);intro v' w1 oz hg oQ)
     go_roundw
     case rel=>
      exact⟨k+1,O++[z],ae,by go_num,by rw[HO.out,amH,HG.out];rfl,oz,(hb.trans (iy.alloc _ _)).own _ _ (lg.alloc _) hg⟩
     case measure=>simp[intOf];omega
   .have hOT:Hid (ik O=R):=by
     show ik O=R;rw[HO.out,ck (by rw[vW.out,<-tO.out];omega)];exact we.out
    go_wp2_with fail;refine(BR OA Oc O _ yy ae).mono ?_;rintro e w' ⟨A'',c'',rfl,qH,mP⟩;go_wp2;go_ret;rw[<-hOT.out];exact⟨A'',c'',rfl,qH,hb.trans mP⟩
open Go.RowKit Fp
theorem zL{L:List Nat}{k:Nat}(h:k<L.length):L.getD k 0=L[k]:=by
 rw[aW,bd h];rfl
theorem CA{L:List Nat}{k:Nat}(h:¬k<L.length):L.getD k 0=0:=by
 rw[aW,bV ae];rfl
theorem ai9(A B:Option Addr)(c d:Nat)(L M:List Nat)(w:World)(hs:Sl w A c L)(hr:Sl w B d M)(h1:L.length<=3000)(h2:M.length<=3000):
 Calls Tryz.prog 149 #[.slice A L.length c,.slice B M.length d] w (sX w (gV (val L+val M))):=by
 have HLl:=Lib.hid (rfl:L.length=L.length);obtain⟨l,hl⟩:∃ l,l=L.length:=⟨_,rfl⟩
 obtain⟨m,hm⟩:∃ m,m=M.length:=⟨_,rfl⟩
 rw[<-hl]at h1 ⊢;rw[<-hm]at h2 ⊢;have HL:=Lib.hid hl;have HM:=Lib.hid hm;clear hl hm HLl;go_enter Tryz.func149,Tryz.ntmps149;go_wp2;go_loopw [5,6,7] (fun v cy i wr=>∃ (k q:Nat) (O:List Nat),(k<=l\/k<=m)/\i = .int .i64 k/\cy = .int .u64 q/\q<=1/\O.length=k/\val O+4294967296^k*q=val (L.take k)+val (M.take k)/\Ow wr w.heap.size v O/\iy w wr) (fun _ _ i _=>3000-(intOf i).toNat)
 case atStart=>exact⟨0,0,[],.inl (bL _),rfl,rfl,ag,rfl,aj,Ow.nil _ _,iy.refl _⟩
 case round=>
  obtain⟨k,q,O,hk,rfl,rfl,hq,hO,kY,lg,hb⟩:=hrel;have HS:=Lib.hid (YS (x:=L.getD k 0) (y:=M.getD k 0) hO kY (uE L k) (uE M k));have HV:=Lib.hid kY;have HO:=Lib.hid hO;have El:O.length<=3000:= ae ;have L8:k<=3000:= ae ;clear kY hO hk;obtain⟨OA,Oc,rfl,yy⟩:=lg.sl;have tW:=fun z:Nat=>fun h:z<8589934593=>vJ z ae 
  by_cases hl:k<l
  .have SY:(k:Int)<l:= ae 
   have tV:k<L.length:=by have:=HL.out;omega
   obtain⟨ab,ao,rfl,_,c1⟩:=(hs.below hb).lr tV;have mB:L[k]<4294967296:=hs.ok.get tV;rw[zL tV]at HS;generalize L[k]=x at *
   clear tV;by_cases hm:k<m
   .have Ik:(k:Int)<m:= ae 
    have oV:k<M.length:=by have:=HM.out;omega
    obtain⟨bb,bo,rfl,_,c2⟩:=(hr.below hb).lr oV;have px:M[k]<4294967296:=hr.ok.get oV;rw[zL oV]at HS;generalize M[k]=y at *
    clear oV;have oW:=tW (q+x+y) ae;simp only[et]at oW;clear tW;have lK:O.length+[(q+x+y)%4294967296].length<=10000000000:= av ;go_wp2_with (at_builtin;go_must (refine qW ai _ _ ai w.heap.size _ O ai (lg.alloc _) _ _ _ [(q+x+y)%4294967296] ai ai (Sl.sT _ _ ((q+x+y)%4294967296) ae ae) lK (qd hb.size _) ?_);intro v' w1 oz hg oQ)
    go_roundw
    case rel=>
     exact⟨k+1,(q+x+y)/4294967296,O++[(q+x+y)%4294967296],ae,by go_num,by go_num,ae,by rw[cg,HO.out];rfl,HS.out,oz,(hb.trans (iy.alloc _ _)).own _ _ (lg.alloc _) hg⟩
    case measure=>simp[intOf];omega
   .have Ik:¬(k:Int)<m:= ae 
    rw[CA (by have:=HM.out;omega)]at HS;have oW:=tW (q+x+0) ae;simp only[et,bt]at oW;clear tW;have lK:O.length+[(q+x+0)%4294967296].length<=10000000000:= av ;go_wp2_with (at_builtin;go_must (refine qW ai _ _ ai w.heap.size _ O ai (lg.alloc _) _ _ _ [(q+x+0)%4294967296] ai ai (Sl.sT _ _ ((q+x+0)%4294967296) ae ae) lK (qd hb.size _) ?_);intro v' w1 oz hg oQ)
    go_roundw
    case rel=>
     exact⟨k+1,(q+x+0)/4294967296,O++[(q+x+0)%4294967296],ae,by go_num,by go_num,ae,by rw[cg,HO.out];rfl,HS.out,oz,(hb.trans (iy.alloc _ _)).own _ _ (lg.alloc _) hg⟩
    case measure=>simp[intOf];omega
  .have SY:¬(k:Int)<l:= ae 
   have hlF:decide ((k:Int)<l)=false:=by simpa using SY
   rw[CA (L:=L) (by have:=HL.out;omega)]at HS;by_cases hm:k<m
   .have Ik:(k:Int)<m:= ae 
    have oV:k<M.length:=by have:=HM.out;omega
    obtain⟨bb,bo,rfl,_,c2⟩:=(hr.below hb).lr oV;have px:M[k]<4294967296:=hr.ok.get oV;rw[zL oV]at HS;generalize M[k]=y at *
    clear oV;have oW:=tW (q+0+y) ae;simp only[et,bt]at oW;clear tW;have lK:O.length+[(q+0+y)%4294967296].length<=10000000000:= av ;go_wp2_with (at_builtin;go_must (refine qW ai _ _ ai w.heap.size _ O ai (lg.alloc _) _ _ _ [(q+0+y)%4294967296] ai ai (Sl.sT _ _ ((q+0+y)%4294967296) ae ae) lK (qd hb.size _) ?_);intro v' w1 oz hg oQ)
    go_roundw
    case rel=>
     exact⟨k+1,(q+0+y)/4294967296,O++[(q+0+y)%4294967296],ae,by go_num,by go_num,ae,by rw[cg,HO.out];rfl,HS.out,oz,(hb.trans (iy.alloc _ _)).own _ _ (lg.alloc _) hg⟩
    case measure=>simp[intOf];omega
   .have Ik:¬(k:Int)<m:= ae 
    clear tW;have Iu:(q:Int)%4294967296=q:= ae ;have we:Hid (ik (O++[q])=gV (val L+val M)):=by
     show ik (O++[q])=_;rw[qy (lg.ok.append (iC.cons ae iC.nil)),uC,HO.out];have h:=HV.out;rw[ck (by have:=HL.out;omega),ck (by have:=HM.out;omega)]at h;simp only[qA,y7,cr,bt];rw[h]
    have lK:O.length+[q].length<=10000000000:= av ;go_wp2_with (at_builtin;go_must (refine qW ai _ _ ai w.heap.size _ O ai (lg.alloc _) _ _ _ [q] ai ai (Sl.sT _ _ q ae ae) lK (qd hb.size _) ?_);intro v' w1 oz hg oQ;obtain⟨P,hP⟩:∃ P,P=O++[q]:=⟨_,rfl⟩;rw[<-hP]at oz we;have Hr:P.length<=3001:=(by rw[hP];simp;omega);clear hP;obtain⟨A',c',rfl,mK⟩:=oz.sl)
    refine(BR A' c' P _ mK ae).mono ?_;rintro e w' ⟨A'',c'',rfl,qH,mP⟩;go_wp2;go_ret;rw[<-we.out];exact⟨A'',c'',rfl,qH,((hb.trans (iy.alloc _ _)).own _ _ (lg.alloc _) hg).trans mP⟩
theorem als(x s:Nat)(hx:x<4294967296):bits BinOp.and IntKind.u32 ((x:Int)/2^s) 1=((x/2^s%2:Nat):Int):=by
 have h:x/2^s<4294967296:=bQ (bw _ _) ae;rw[show((x:Int)/2^s)=((x/2^s:Nat):Int)by simp,show(1:Int)=((1:Nat):Int)from rfl,bits_and_u32_nat _ _ h ag,gi]
theorem ajm(A:Option Addr)(c:Nat)(L:List Nat)(w:World)(hs:Sl w A c L)(h1:L.length<=3000)(h0:val L≠0):
 Calls Tryz.prog 123 #[.slice A L.length c] w fun e w'=>e = .returned (.int .i64 (jO (val L)))/\w=w':=by
 have hz:=DZ hs.ok h0;have HB:=Lib.hid (fun k (hk:k<jO (val L))=>PU h0 hk);have HE:=Lib.hid (PT h0);have HV:=Lib.hid (fun k=>Km hs.ok k);generalize jO (val L)=t at *
 go_enter Tryz.func123,Tryz.ntmps123;go_wp2;go_loop [3] (fun i=>∃ k:Nat,k<=t/\i = .int .i64 k) (fun i=>t-(intOf i).toNat)
 case atStart=>exact⟨0,bL _,rfl⟩
 case round=>
  obtain⟨k,hk,rfl⟩:=hrel;have tV:k/32<L.length:= ae ;obtain⟨ab,ao,rfl,_,c1⟩:=hs.lr tV;have hv:=HV.out k tV;have mB:L[k/32]<4294967296:=hs.ok.get tV;generalize L[k/32]=x at *
  clear HV;have tf:=als x (k%32) mB;rw[<-hv]at tf;clear hv;by_cases hkt:k<t
  .rw [HB.out k hkt]at tf
   have hb:(bits BinOp.and IntKind.u32 ((x:Int)/2^(k%32)) 1==0)=true:=by rw[tf];rfl
   clear tf;go_wp2;go_round
   case rel=>exact⟨k+1,ae,by go_num⟩
   case measure=>simp[intOf];omega
  .obtain rfl:k=t:= ae 
   rw[HE.out]at tf;have hb:(bits BinOp.and IntKind.u32 ((x:Int)/2^(k%32)) 1==0)=false:=by rw[tf];rfl
   clear tf;go_wp2;go_ret;exact⟨rfl,rfl⟩
theorem ai7(A B:Option Addr)(c d:Nat)(L M:List Nat)(w:World)(hs:Sl w A c L)(hr:Sl w B d M)(h1:L.length<=3000)(h2:M.length<=L.length)(hle:val M<=val L):
 Calls Tryz.prog 151 #[.slice A L.length c,.slice B M.length d] w (sX w (gV (val L-val M))):=by
 obtain⟨l,hl⟩:∃ l,l=L.length:=⟨_,rfl⟩
 obtain⟨m,hm⟩:∃ m,m=M.length:=⟨_,rfl⟩
 rw[<-hl]at h1 h2 ⊢;rw[<-hm]at h2 ⊢;have HL:=Lib.hid hl;have HM:=Lib.hid hm;clear hl hm;have HLE:=Lib.hid hle;clear hle;go_enter Tryz.func151,Tryz.ntmps151;go_wp2;go_loopw [5,6,7] (fun v cy i wr=>∃ (k q:Nat) (O:List Nat),k<=l/\i = .int .i64 k/\cy = .int .u64 q/\q<=1/\O.length=k/\val O+val (M.take k)=val (L.take k)+4294967296^k*q/\Ow wr w.heap.size v O/\iy w wr) (fun _ _ i _=>l-(intOf i).toNat)
 case atStart=>exact⟨0,0,[],bL _,rfl,rfl,ag,rfl,aj,Ow.nil _ _,iy.refl _⟩
 case round=>
  obtain⟨k,q,O,hk,rfl,rfl,hq,hO,kY,lg,hb⟩:=hrel;have HS:=Lib.hid (fun(x y:Nat) (e1:L.getD k 0=x) (e2:M.getD k 0=y) (dd c':Nat)=>akI (x:=x) (y:=y) (d:=dd) (c':=c') hO kY ((uE L k).trans (by rw[e1])) ((uE M k).trans (by rw[e2])));have HV:=Lib.hid kY;have HO:=Lib.hid hO;have El:O.length<=3000:= ae ;clear kY hO;obtain⟨OA,Oc,rfl,yy⟩:=lg.sl;by_cases hl:k<l
  .have tV:k<L.length:=by have:=HL.out;omega
   obtain⟨ab,ao,rfl,_,c1⟩:=(hs.below hb).lr tV;have mB:L[k]<4294967296:=hs.ok.get tV;have HX:=Lib.hid (zL tV);generalize L[k]=x at *
   clear tV;by_cases hm:k<m
   .have oV:k<M.length:=by have:=HM.out;omega
    obtain⟨bb,bo,rfl,_,c2⟩:=(hr.below hb).lr oV;have px:M[k]<4294967296:=hr.ok.get oV;have HY:=Lib.hid (zL oV);generalize M[k]=y at *
    clear oV;have oW:=vJ (x+4294967296-(q+y)) ae;rw[show((x+4294967296-(q+y):Nat):Int)=(x:Int)+4294967296-(q+y)by omega]at oW;have lK:O.length+[(x+4294967296-(q+y))%4294967296].length<=10000000000:= av ;go_wp2_with (at_builtin;go_must (refine qW ai _ _ ai w.heap.size _ O ai (lg.alloc _) _ _ _ [(x+4294967296-(q+y))%4294967296] ai ai (Sl.sT _ _ ((x+4294967296-(q+y))%4294967296) ae ae) lK (qd hb.size _) ?_);intro v' w1 oz hg oQ)
    go_roundw
    case rel=>
     exact⟨k+1,1-(x+4294967296-(q+y))/4294967296,O++[(x+4294967296-(q+y))%4294967296],ae,by go_num,by rw[show(1-((x:Int)+4294967296-(q+y))/4294967296)=((1-(x+4294967296-(q+y))/4294967296:Nat):Int)by omega],ae,by rw[cg,HO.out];rfl,HS.out x y HX.out HY.out _ _ ae,oz,(hb.trans (iy.alloc _ _)).own _ _ (lg.alloc _) hg⟩
    case measure=>simp[intOf];omega
   .have Ik:¬(k:Int)<m:= ae 
    have HY:=Lib.hid (CA (L:=M) (k:=k) (by have:=HM.out;omega));have oW:=vJ (x+4294967296-q) ae;rw[show((x+4294967296-q:Nat):Int)=(x:Int)+4294967296-q by omega]at oW;have lK:O.length+[(x+4294967296-q)%4294967296].length<=10000000000:= av ;go_wp2_with (at_builtin;go_must (refine qW ai _ _ ai w.heap.size _ O ai (lg.alloc _) _ _ _ [(x+4294967296-q)%4294967296] ai ai (Sl.sT _ _ ((x+4294967296-q)%4294967296) ae ae) lK (qd hb.size _) ?_);intro v' w1 oz hg oQ)
    go_roundw
    case rel=>
     exact⟨k+1,1-(x+4294967296-q)/4294967296,O++[(x+4294967296-q)%4294967296],ae,by go_num,by rw[show(1-((x:Int)+4294967296-q)/4294967296)=((1-(x+4294967296-q)/4294967296:Nat):Int)by omega],ae,by rw[cg,HO.out];rfl,HS.out x 0 HX.out HY.out _ _ ae,oz,(hb.trans (iy.alloc _ _)).own _ _ (lg.alloc _) hg⟩
    case measure=>simp[intOf];omega
  .obtain rfl:k=l:= ae 
   have we:Hid (ik O=gV (val L-val M)):=by
    show ik O=_;have h:=HV.out;rw[ck (l:=L) (by have:=HL.out;omega),ck (l:=M) (by have:=HM.out;omega)]at h;rw[qy lg.ok,(XB lg.ok HO.out h HLE.out).2]
   go_wp2_with fail;refine(BR OA Oc O _ yy ae).mono ?_;rintro e w' ⟨A'',c'',rfl,qH,mP⟩;go_wp2;go_ret;rw[<-we.out];exact⟨A'',c'',rfl,qH,hb.trans mP⟩
open Go.RowKit Fp
theorem M3{O:List Nat}{p a b c o:Nat}(ho:O[p]? = some o):
 val (O.set p ((a*b+o+c)%4294967296))+4294967296^(p+1)*((a*b+o+c)/4294967296)=val O+4294967296^p*c+4294967296^p*(a*b):=by
 obtain⟨hp,rfl⟩:=bU.1 ho;have h:=OI (x:=(a*b+O[p]+c)%4294967296) hp;have e:=congrArg (4294967296^p * ·) (dq (a*b+O[p]+c) 4294967296);simp only[bn]at e;rw[aZ,bc];omega
theorem KA{O:List Nat}{p c o:Nat}(ho:O[p]? = some o):
 val (O.set p ((o+c)%4294967296))+4294967296^(p+1)*((o+c)/4294967296)=val O+4294967296^p*c:=by
 have h:=M3 (a:=0) (b:=0) (c:=c) ho;simpa using h
theorem aaY{i n k N c:Nat}{O a b:List Nat}(hk:val O+4294967296^k*c=val (a.take (i+1))*val b)(ha:iC a)(hb:iC b)(hi:i<a.length)(hn:b.length=n)(hc:0<c)(hN:a.length+n<N):k<N:=by
 have h1:=lZ (ha.take (i+1));rw[bY,cR ae]at h1;have h2:=lZ hb;rw[hn]at h2;have h3:val (a.take (i+1))*val b<4294967296^(i+1+n):=by
  rw[aV];exact gj h1 h2
 have h4:4294967296^k*1<=4294967296^k*c:=ca _ hc;have h5:4294967296^k<4294967296^(i+1+n):= ae ;have:=(gM (ag:1<4294967296)).1 h5;omega
theorem aly(x y:Nat)(hx:x<4294967296)(hy:y<4294967296):IntKind.u64.wrap ((x:Int)*(y:Int))=((x*y:Nat):Int)/\x*y<=18446744065119617025:=by
 have h:x*y<=4294967295*4294967295:=cK ae ae;refine⟨?_,ae⟩;rw[IntKind.wrap_u64,<-dI];omega
theorem pB(x:Nat)(h:x<18446744073709551616):IntKind.u64.wrap (x:Int)=(x:Int):=by rw[IntKind.wrap_u64];omega
theorem Fp.iC.Jx{L:List Nat}(h:iC L)(k:Nat)(x:Nat):iC (L.set k (x%4294967296)):=h.set k (bg _ ag)
theorem aji(A B:Option Addr)(c d:Nat)(L M:List Nat)(w:World)(hs:Sl w A c L)(hr:Sl w B d M)(h1:L.length<=3000)(h2:M.length<=3000):
 Calls Tryz.prog 189 #[.slice A L.length c,.slice B M.length d] w (sX w (gV (val L*val M))):=by
 obtain⟨l,hl⟩:∃ l,l=L.length:=⟨_,rfl⟩
 obtain⟨m,hm⟩:∃ m,m=M.length:=⟨_,rfl⟩
 rw[<-hl]at h1 ⊢;rw[<-hm]at h2 ⊢;have HL:=Lib.hid hl;have HM:=Lib.hid hm;clear hl hm;have oW:=C9 (l+m+1) ae;rw[show((l+m+1:Nat):Int)=(l:Int)+(m:Int)+1 by omega]at oW;have uY:=Lib.hid (Rw.xw w (l+m+1));go_enter Tryz.func189,Tryz.ntmps189;go_wp2;go_loopw [6] (fun i wr=>∃ (k:Nat) (O:List Nat),k<=l/\i = .int .i64 k/\O.length=l+m+1/\iC O/\val O=val (L.take k)*val M/\Rw wr w.heap.size O/\iy w wr) (fun i _=>l-(intOf i).toNat)
 case atStart=>
  exact⟨0,List.replicate (l+m+1) 0,bL _,rfl,aj,iC.BS _,by simp[y9],uY.out,iy.alloc _ _⟩
 case round=>
  obtain⟨i,O,hi,rfl,hO,kX,kY,hR,hb⟩:=hrel;have HV:=Lib.hid kY;have HO:=Lib.hid hO;clear kY hO;by_cases iD:i<l
  .have Ia:i<L.length:=by have:=HL.out;omega
   obtain⟨x,hx⟩:∃ x,x=L[i]:=⟨_,rfl⟩
   have HX:=Lib.hid hx;have mB:x<4294967296:=by rw[hx];exact hs.ok.get Ia
   have HXc:=Lib.hid (fun w (h:Sl w A c L)=>hx▸h.lr Ia);clear hx;have HST:=Lib.hid (show val (L.take (i+1))=val (L.take i)+4294967296^i*x by rw[HX.out];exact xH L i Ia);clear HX Ia;go_wp2;obtain⟨wo,rfl⟩:∃ wo:World,wo=wr:=⟨_,rfl⟩
   go_loopw [7,8] (fun cy k wr=>∃ (j q:Nat) (O:List Nat),j<=m/\k = .int .i64 j/\cy = .int .u64 q/\q<4294967296/\O.length=l+m+1/\iC O/\val O+4294967296^(i+j)*q=val (L.take i)*val M+4294967296^i*(x*val (M.take j))/\Rw wr w.heap.size O/\iy w wr) (fun _ k _=>m-(intOf k).toNat)
   case atStart=>
    exact⟨0,0,O,bL _,rfl,rfl,ag,HO.out,kX,by simp[HV.out],hR,hb⟩
   case round=>
    clear HO HV kX hR;obtain⟨j,q,O,hj,rfl,rfl,hq,hO,kX,kY,hR,hb⟩:=hrel;have HV:=Lib.hid kY;have HO:=Lib.hid hO;clear kY hO;by_cases zV:j<m
    .have Ib:j<M.length:=by have:=HM.out;omega
     obtain⟨y,hy⟩:∃ y,y=M[j]:=⟨_,rfl⟩
     have px:y<4294967296:=by rw[hy];exact hr.ok.get Ib
     obtain⟨ab,ao,e1,_,c1⟩:=HXc.out _ (hs.below hb);obtain⟨bb,bo,e2,_,c2⟩:=(hr.below hb).lr Ib;have HYS:=Lib.hid (show val (M.take (j+1))=val (M.take j)+4294967296^j*y by rw[hy];exact xH M j Ib);rw[<-hy]at c2;clear hy Ib HXc;subst e1 e2;have hp:i+j<O.length:=by have:=HO.out;omega
     have ho:=bd hp;have aey:O[i+j]<4294967296:=kX.get hp;have c3:=hR.cell ho;have c4:=hR.frozen (i+j);have HS:=Lib.hid (M3 (a:=x) (b:=y) (c:=q) ho);generalize O[i+j]=o at *
     clear ho hp;have Ir:=fun v=>kX.Jx (i+j) v
     have HR2:=Lib.hid (fun v:Nat=>hR.set (i+j) v);have HE2:=Lib.hid (fun(n:Nat) (v:Value)=>(below_drewN hb n).setCell (p:=⟨w.heap.size,i+j,none⟩) (aU _) v);have HOK:=Lib.hid Ir;have HNEW:=Lib.hid (show val (L.take i)*val M+4294967296^i*(x*val (M.take (j+1)))=val (L.take i)*val M+4294967296^i*(x*val (M.take j))+4294967296^(i+j)*(x*y)by
      rw[HYS.out,bn x,bn (4294967296^i),aV,cE];congr 2;rw[cD x,bc])
     obtain⟨Bu,Ac⟩:=aly x y mB px;generalize x*y=z at *
     have yD:IntKind.u64.wrap ((z:Int)+(o:Int))=(z:Int)+(o:Int):=by rw[IntKind.wrap_u64];omega
     have tw:IntKind.u64.wrap ((z:Int)+(o:Int)+(q:Int))=(z:Int)+(o:Int)+(q:Int):=by rw[IntKind.wrap_u64];omega
     have tW:=vJ (z+o+q) ae;simp only[et]at tW;have xj:IntKind.i64.wrap ((i:Int)+(j:Int))=(i:Int)+(j:Int):=i64_in _ ae ae;have wh:(0:Int)<=(i:Int)+(j:Int):= ae ;have SR:((i:Int)+(j:Int)).toNat=i+j:= ae ;have hi4:(i:Int)+(j:Int)<(l:Int)+(m:Int)+1:= ae ;go_wp2;go_quiet (fail);go_wp2;go_roundw
     case rel=>
      exact⟨j+1,(z+o+q)/4294967296,O.set (i+j) ((z+o+q)%4294967296),ae,by go_num,by go_num,ae,by rw[cv];exact HO.out,HOK.out _,by rw[HNEW.out,<-HV.out];exact HS.out,HR2.out _,HE2.out _ _⟩
     case measure=>simp[intOf];omega
    .obtain rfl:j=m:= ae 
     have HV2:=Lib.hid (show val O+4294967296^(i+j)*q=val (L.take (i+1))*val M by
      rw[HST.out,HV.out,show M.take j=M from ck (by rw[HM.out];exact aU _),bK,bc])
     clear HV;go_wp2;obtain⟨wo,rfl⟩:∃ wo:World,wo=wr:=⟨_,rfl⟩
     go_loopw [7,10] (fun cy k wr=>∃ (p q:Nat) (O:List Nat),p<=l+j+1/\k = .int .i64 p/\cy = .int .u64 q/\q<4294967296/\O.length=l+j+1/\iC O/\val O+4294967296^p*q=val (L.take (i+1))*val M/\Rw wr w.heap.size O/\iy w wr) (fun _ k _=>l+j+1-(intOf k).toNat)
     case atStart=>
      exact⟨i+j,q,O,ae,by go_num,rfl,hq,HO.out,kX,HV2.out,hR,hb⟩
     case round=>
      clear HO HV2 kX hR hq;obtain⟨p,q,O,hp,rfl,rfl,hq,hO,kX,kY,hR,hb⟩:=hrel;have HV:=Lib.hid kY;have HO:=Lib.hid hO;clear kY hO;by_cases hc:0<q
      .have hpN:p<l+j+1:=aaY HV.out hs.ok hr.ok (by have:=HL.out;omega) HM.out.symm hc (by have:=HL.out;omega)
       have Mf:p<O.length:=by have:=HO.out;omega
       have ho:=bd Mf;have aey:O[p]<4294967296:=kX.get Mf;have c3:=hR.cell ho;have c4:=hR.frozen p;have HS:=Lib.hid (KA (c:=q) ho);generalize O[p]=o at *
       clear ho Mf;have HR2:=Lib.hid (fun v:Nat=>hR.set p v);have HE2:=Lib.hid (fun v:Value=>hb.setCell (p:=⟨w.heap.size,p,none⟩) (aU _) v);have HOK:=Lib.hid (fun v=>kX.Jx p v);have tW:=vJ (o+q) ae;simp only[et]at tW;have CS:decide ((q:Int)>0)=true:=aS ae;have tZ:decide (0<q)=true:=aS hc;go_wp2;go_roundw
       case rel=>
        exact⟨p+1,(o+q)/4294967296,O.set p ((o+q)%4294967296),ae,by go_num,by go_num,ae,by rw[cv];exact HO.out,HOK.out _,by rw[<-HV.out];exact HS.out,HR2.out _,HE2.out _⟩
       case measure=>simp[intOf];omega
      .obtain rfl:q=0:= ae 
       go_wp2;go_roundw
       case rel=>
        exact⟨i+1,O,ae,by go_num,HO.out,kX,by rw[<-HV.out];simp,hR,hb⟩
       case measure=>simp[intOf];omega
  .obtain rfl:i=l:= ae 
   have HF:=Lib.hid (show ik O=gV (val L*val M)by
    rw[qy kX,HV.out,show L.take i=L from ck (by rw[HL.out];exact aU _)])
   have tv:=hR.sl kX (by rw[HO.out];omega);obtain⟨n,hn⟩:∃ n,n=O.length:=⟨_,rfl⟩
   have j8:i+m+1=n:=by rw[hn];exact HO.out.symm
   have hT:=Lib.hid (BR _ _ O _ tv (by rw[HO.out];omega));rw[HO.out]at hT;clear hn j8;go_wp2_with fail;refine hT.out.mono ?_;rintro e w' ⟨A'',c'',rfl,qH,mP⟩;go_wp2;go_ret;rw[<-HF.out];exact⟨A'',c'',rfl,qH,hb.trans mP⟩
open Go.RowKit Fp
theorem FL(s:Bool)(A:Option Addr)(c:Nat)(L:List Nat)(e:Int)(w:World)(hs:Sl w A c L)(hlen:L.length<=3000)(kR:-1000000<=e)(kx:e<=1000000):
 Calls Tryz.prog 76 #[.bool s,.slice A L.length c,.int .i64 e] w (tI w (canon s (val L) e)):=by
 by_cases h0:val L=0
 .have oE:=Lib.hid (show canon s (val L) e=jA by unfold canon;rw[aR h0];rfl)
  have Ml:ik L=[]:=by rw[qy hs.ok,h0,ni]
  have hT:=Lib.hid (fun w (h:Sl w A c L)=>BR A c L w h ae);rw[Ml]at hT;clear Ml h0;go_enter Tryz.func76,Tryz.ntmps76;go_wp2_with fail;refine(hT.out _ (hs.alloc _)).mono ?_;rintro e w' ⟨A',c',rfl,mK,hb⟩;have bx:=(ji.new w false none 0 0 0).ext hb;have b0:=bx.c0;have b1:=bx.c1;have b2:=bx.c2;have f0:=bx.fr 0;have f1:=bx.fr 1;have f2:=bx.fr 2;go_wp2;rw[oE.out];have hz:gV jA.m=[]:=ni;exact sI rfl rfl rfl (bx.set _ _ _ _ _) (by rw[hz];rfl) (by rw[hz];exact bx.qw (Sl.nil _) _ _ _ _ _) (ji.ql ((iy.alloc _ _).trans hb) (aU _) _ _ _ _ _)
 .have oE:=Lib.hid (show canon s (val L) e=⟨s,val L/2^jO (val L),e+jO (val L)⟩by unfold canon;rw[aQ h0])
  have hT:=Lib.hid (fun w (h:Sl w A c L)=>BR A c L w h ae);have Tk:=oH L;unfold lV at Tk;have hv:=ot L;have kX:=hs.ok.ik;generalize ik L=M at *
  rw[<-hv]at h0 oE ⊢;clear hv;have hZ:=Lib.hid (fun A c w (h:Sl w A c M)=>ajm A c M w h ae h0);have zT:jO (val M)<=100000:=by have:=DZ kX h0;omega
  have hR:=Lib.hid (fun A c w (h:Sl w A c M)=>ajd A c M (jO (val M)) w h ae zT);have sN:M.length≠0:=by intro h;rw[de h]at h0;exact h0 rfl
  generalize val M/2^jO (val M)=q at *
  generalize jO (val M)=t at *
  obtain⟨m,hm⟩:∃ m,m=M.length:=⟨_,rfl⟩
  go_enter Tryz.func76,Tryz.ntmps76;go_wp2_with fail;refine(hT.out _ (hs.alloc _)).mono ?_;rintro e' w1 ⟨A1,c1,rfl,sQ,jc⟩;go_wp2_with fail;refine(hZ.out _ _ _ sQ).mono ?_;rintro e' w2 ⟨rfl,rfl⟩;go_wp2_with fail;refine(hR.out _ _ _ sQ).mono ?_;rintro e' w2 ⟨A2,c2,rfl,kD,me⟩;have hb:=jc.trans me;have bx:=(ji.new w false none 0 0 0).ext hb;have b0:=bx.c0;have b1:=bx.c1;have b2:=bx.c2;have f0:=bx.fr 0;have f1:=bx.fr 1;have f2:=bx.fr 2;go_wp2;rw[oE.out];exact sI rfl rfl rfl (bx.set _ _ _ _ _) rfl (bx.qw kD _ _ _ _ _) (ji.ql ((iy.alloc _ _).trans hb) (aU _) _ _ _ _ _)
theorem abO(A:Option Addr)(c:Nat)(L:List Nat)(w:World)(hs:Sl w A c L)(h1:L.length<=3000)(h0:val L≠0)(hT:Tb w):
 Calls Tryz.prog 126 #[.slice A L.length c] w fun e w'=>e = .returned (.int .i64 (jO (val L)))/\w=w':=by
 have kX:=hs.ok;have HV:=Lib.hid (fun i hi h hx=>abg kX i hi h hx);have H0:=Lib.hid h0;clear h0;go_enter Tryz.func126,Tryz.ntmps126;go_wp2;go_loop [3,8] (fun n i=>∃ k:Nat,k<=L.length/\i = .int .i64 k/\n = .int .i64 ((32*k:Nat):Int)/\∀ j,(hj:j<k)->L[j]? = some 0) (fun _ i=>L.length-(intOf i).toNat)
 case atStart=>exact⟨0,bL _,rfl,rfl,fun j hj=> ae⟩
 case round=>
  obtain⟨k,hk,rfl,rfl,hz⟩:=hrel;have HZ:=Lib.hid hz;clear hz;by_cases iD:k<L.length
  .obtain ⟨ab,ao,rfl,_,c1⟩:=hs.lr iD
   have mB:L[k]<4294967296:=kX.get iD;have HG:=Lib.hid (bd iD);have HC:=Lib.hid (fun hx=>HV.out k iD (fun j hj=>by have:=HZ.out j hj;rw[bd ae]at this;simpa using this) hx);clear HV;generalize L[k]=x at *
   by_cases hx:x=0
   .have HX:=Lib.hid hx;clear hx
    have hb:((x:Int) != 0)=false:=by have:=HX.out;simp;omega
    go_wp2;go_round
    case rel=>exact⟨k+1,ae,by go_num,by go_num,fun j hj=>by
     by_cases e:j=k
     .subst e;rw[HG.out,HX.out]
     .exact HZ.out j ae⟩
    case measure=>simp[intOf];omega
   .have hb:((x:Int) != 0)=true:= av 
    have HX:=Lib.hid (HC.out hx);have amm:jO x<=32:=by
     have h1:=Di hx;rcases dG 32 (jO x)with h|h
     .have:=eu (a:=2) ag h
      have e:(2:Nat)^32=4294967296:= ag ;omega
     .exact h
    go_wp2_with (go_at_call 163;refine(alp x hx mB _ hT).mono ?_;rintro e w' ⟨rfl,rfl⟩)
    go_ret;exact⟨oo (by rw[HX.out];simp),rfl⟩
  .exfalso
   have:val L=0:=by
    rw[F4];intro y hy;obtain⟨j,hj,rfl⟩:=List.getElem_of_mem hy;have:=HZ.out j ae;rw[bd hj]at this;simpa using this
   exact H0.out this
open Go.RowKit Fp
theorem G4(s:Bool)(A:Option Addr)(c:Nat)(L:List Nat)(e:Int)(w:World)(hs:Sl w A c L)(_hlen:L.length<=100000)(ns:(ik L).length<=256)(kR:-1000000<=e)(kx:e<=1000000)(kp:Tb w):
 Calls Tryz.prog 79 #[.bool s,.slice A L.length c,.int .i64 e] w (tI w (canon s (val L) e)):=by
 have hT:=Lib.hid (fun w (h:Sl w A c L)=>abU A c L w h);have kD:=hs.tE;have hv:=ot L;have kX:=hs.ok.ik;have Br:=y5 L;generalize ik L=M at *
 rw[<-hv];clear hv;by_cases h0:val M=0
 .have oE:=Lib.hid (show canon s (val M) e=jA by unfold canon;rw[aR h0];rfl)
  have sN:Hid (M.length=0):=by
   show M.length=0;rw[Br.Eb kX,h0,ni];rfl
  obtain⟨m,hm⟩:∃ m,m=M.length:=⟨_,rfl⟩
  rw[<-hm]at hT sN;clear hm h0;obtain rfl:m=0:=sN.out;clear sN;go_enter Tryz.func79,Tryz.ntmps79;go_wp2_with fail;refine(hT.out _ (hs.alloc _)).mono ?_;rintro e w' ⟨rfl,rfl⟩;have bx:=ji.new w false none 0 0 0;have b0:=bx.c0;have b1:=bx.c1;have b2:=bx.c2;have f0:=bx.fr 0;have f1:=bx.fr 1;have f2:=bx.fr 2;go_wp2;rw[oE.out];have hz:gV jA.m=[]:=ni;exact sI rfl rfl rfl bx (by rw[hz];rfl) (by rw[hz];exact Sl.nil _) (iy.alloc _ _)
 .have oE:=Lib.hid (show canon s (val M) e=⟨s,val M/2^jO (val M),e+jO (val M)⟩by unfold canon;rw[aQ h0])
  have hZ:=Lib.hid (fun A c w (h:Sl w A c M) (ht:Tb w)=>abO A c M w h ae h0 ht);have zT:jO (val M)<=65536:=by have:=DZ kX h0;omega
  have hR:=Lib.hid (fun A c w (h:Sl w A c M)=>U4 A c M (jO (val M)) w h ns zT);have sN:M.length≠0:=by intro h;rw[de h]at h0;exact h0 rfl
  have vc:(gV (val M/2^jO (val M))).length<=256:=by
   refine q9 (bQ (bw _ _) ?_);exact bD (lZ kX) (bh ag ns)
  generalize val M/2^jO (val M)=q at *
  generalize jO (val M)=t at *
  have hK:=Lib.hid (fun A c w (h:Sl w A c (gV q))=>KE A c (gV q) w h ae);have hP:=Lib.hid (fun A c w (h:Sl w A c (gV q))=>KD A c (gV q) w h);obtain⟨Q,hQ⟩:∃ Q,Q=gV q:=⟨_,rfl⟩
  have HQ:=Lib.hid hQ;rw[<-hQ]at hR hK hP vc;clear hQ;go_enter Tryz.func79,Tryz.ntmps79;go_wp2_with fail;refine(hT.out _ (hs.alloc _)).mono ?_;rintro e' w1 ⟨rfl,rfl⟩;go_wp2_with fail;refine(hZ.out _ _ _ (kD.alloc _) (kp.alloc _)).mono ?_;rintro e' w2 ⟨rfl,rfl⟩;go_wp2_with fail;refine(hR.out _ _ _ (kD.alloc _)).mono ?_;rintro e' w2 ⟨A2,c2,rfl,ae0,me⟩;go_wp2_with fail;refine(hK.out _ _ _ ae0).mono ?_;rintro e' w3 ⟨A3,c3,rfl,CT,pk⟩;go_wp2_with fail;refine(hP.out _ _ _ CT).mono ?_;rintro e' w4 ⟨rfl,rfl⟩;have hb:=me.trans pk;have bx:=(ji.new w false none 0 0 0).ext hb;have b0:=bx.c0;have b1:=bx.c1;have b2:=bx.c2;have f0:=bx.fr 0;have f1:=bx.fr 1;have f2:=bx.fr 2;go_wp2;rw[oE.out];rw[HQ.out]at CT ⊢;exact sI rfl rfl rfl (bx.set _ _ _ _ _) rfl (bx.qw CT.Qp _ _ _ _ _) (ji.ql ((iy.alloc _ _).trans hb) (aU _) _ _ _ _ _)
open Go.RowKit Fp
theorem KQ(A:Option Addr)(c:Nat)(L:List Nat)(w:World)(hs:Sl w A c L)(hlen:L.length<=100000000):
 Calls Tryz.prog 161 #[.slice A L.length c] w fun e w'=>e = .returned (.int .i64 (ib (val L)))/\w=w':=by
 have H:=Lib.hid (UW A c L w hs hlen);go_enter Tryz.func161,Tryz.ntmps161;go_wp2_with fail;refine H.out.mono ?_;rintro e w' ⟨rfl,rfl⟩;go_wp2;go_ret;exact⟨rfl,rfl⟩
def ue(m:Nat)(e:Int):Bool:=decide (mQ ⟨false,m,e⟩)
theorem Mx(s:Bool)(A:Option Addr)(c:Nat)(L:List Nat)(e:Int)(w:World)(hs:Sl w A c L)(hlen:L.length<=100000000)(kR:-9223372036854775808<=e)(kx:e<=9223372036854775807):
 Calls Tryz.prog 119 #[.agg #[.bool s,.slice A L.length c,.int .i64 e]] w fun r w'=>r = .returned (.bool (ue (val L) e))/\iy w w':=by
 have H:=Lib.hid (fun w (h:Sl w A c L)=>KQ A c L w h hlen);have hn:Hid (ue (val L) e=decide (ib (val L)=0\/ib (val L)<=4096 /\ -16384<=e/\e<=16384/\(ib (val L):Int)+e<=16384)):=by
  have h:ib (val L)=0↔val L=0:=by
   constructor
   .intro h;apply bE;intro h0;have:=mS h0;omega
   .intro h;rw[h];rfl
  exact amI.2 (or_congr h.symm Iff.rfl)
 have yd:ib (val L)<=32*L.length:=kO.2 (by rw[<-nF];exact lZ hs.ok);generalize ib (val L)=n at *
 generalize ue (val L) e=b at *
 have lQ:n=0\/(0<n/\4096<n)\/(0<n/\n<=4096/\e < -16384)\/(0<n/\n<=4096 /\ -16384<=e/\16384<e)\/(0<n/\n<=4096 /\ -16384<=e/\e<=16384/\16384<(n:Int)+e)\/(0<n/\n<=4096 /\ -16384<=e/\e<=16384/\(n:Int)+e<=16384):= ae ;rcases lQ with h|⟨h,h1⟩|⟨h,h1,h2⟩|⟨h,h1,h2,h3⟩|⟨h,h1,h2,h3,h4⟩|⟨h,h1,h2,h3,h4⟩
 .subst h
  have hb:b=true:=by rw[hn.out];simp
  clear hn;subst hb;go_enter Tryz.func119,Tryz.ntmps119;go_wp2_with fail;refine(H.out _ (hs.alloc _)).mono ?_;rintro r w' ⟨rfl,rfl⟩;go_wp2;go_ret;exact⟨rfl,iy.alloc _ _⟩
 .have hb:b=false:=by rw[hn.out];simp;omega
  have pM:((n:Int)==0)=false:= av ;have rN:decide ((n:Int)<=4096)=false:= av ;clear hn;subst hb;go_enter Tryz.func119,Tryz.ntmps119;go_wp2_with fail;refine(H.out _ (hs.alloc _)).mono ?_;rintro r w' ⟨rfl,rfl⟩;go_wp2;go_ret;exact⟨rfl,iy.alloc _ _⟩
 .have hb:b=false:=by rw[hn.out];simp;omega
  have pM:((n:Int)==0)=false:= av ;have rN:decide ((n:Int)<=4096)=true:= av ;have j8:decide (-16384<=e)=false:= av ;clear hn;subst hb;go_enter Tryz.func119,Tryz.ntmps119;go_wp2_with fail;refine(H.out _ (hs.alloc _)).mono ?_;rintro r w' ⟨rfl,rfl⟩;go_wp2;go_ret;exact⟨rfl,iy.alloc _ _⟩
 .have hb:b=false:=by rw[hn.out];simp;omega
  have pM:((n:Int)==0)=false:= av ;have rN:decide ((n:Int)<=4096)=true:= av ;have j8:decide (-16384<=e)=true:= av ;have CP:decide (e<=16384)=false:= av ;clear hn;subst hb;go_enter Tryz.func119,Tryz.ntmps119;go_wp2_with fail;refine(H.out _ (hs.alloc _)).mono ?_;rintro r w' ⟨rfl,rfl⟩;go_wp2;go_ret;exact⟨rfl,iy.alloc _ _⟩
 .have hb:b=false:=by rw[hn.out];simp;omega
  have pM:((n:Int)==0)=false:= av ;have rN:decide ((n:Int)<=4096)=true:= av ;have j8:decide (-16384<=e)=true:= av ;have CP:decide (e<=16384)=true:= av ;have hn4:decide ((n:Int)+e<=16384)=false:= av ;clear hn;subst hb;go_enter Tryz.func119,Tryz.ntmps119;go_wp2_with fail;refine(H.out _ (hs.alloc _)).mono ?_;rintro r w' ⟨rfl,rfl⟩;go_wp2;go_ret;exact⟨rfl,iy.alloc _ _⟩
 .have hb:b=true:=by rw[hn.out];simp;omega
  have pM:((n:Int)==0)=false:= av ;have rN:decide ((n:Int)<=4096)=true:= av ;have j8:decide (-16384<=e)=true:= av ;have CP:decide (e<=16384)=true:= av ;have hn4:decide ((n:Int)+e<=16384)=true:= av ;clear hn;subst hb;go_enter Tryz.func119,Tryz.ntmps119;go_wp2_with fail;refine(H.out _ (hs.alloc _)).mono ?_;rintro r w' ⟨rfl,rfl⟩;go_wp2;go_ret;exact⟨rfl,iy.alloc _ _⟩
def oI(s:Bool)(L:List Nat)(e:Int):Prop:=nB L/\L.length<=256/\Dy.ia ⟨s,val L,e⟩
theorem QW(s:Bool)(e:Int):oI s [] e↔s=false/\e=0:=by
 unfold oI;constructor
 .rintro ⟨_,_,hc,_⟩
  rcases hc with⟨_,h1,h2⟩|h
  .exact ⟨h1,h2⟩
  .simp at h
 .rintro ⟨rfl,rfl⟩
  exact⟨nB.nil,aj,rD⟩
theorem QV{s:Bool}{L:List Nat}{e:Int}{x y:Nat}(hx:L[0]? = some x)(hy:L[L.length-1]? = some y):
 oI s L e↔L.length<=256/\x%2=1/\y≠0/\ue (val L) e=true:=by
 have Ta:val L%2=x%2:=by
  cases L with
  |nil=>simp at hx
  |cons z l=>simp at hx;subst hx;simp only[qA];omega
 have Br:nB L↔y≠0:=by
  rw[AK];obtain⟨h1,h2⟩:=bU.1 hy;constructor
  .intro h;rw[<-h2];exact h ae 
  .intro h _;rw[h2];exact h
 unfold oI ue;rw[Br,gl];constructor
 .rintro ⟨h1,h2,hc,hr⟩
  have rP:mQ ⟨false,val L,e⟩:=hr;refine⟨h2,?_,h1,rP⟩;rcases hc with⟨h,_,_⟩|h
  .exfalso
   have:=(Br.2 h1).y8 (by intro h0;subst h0;simp at hx);simp only at h;omega
  .rw [<-Ta];exact h
 .rintro ⟨h1,h2,h3,h4⟩
  exact⟨h3,h1,.inr (by show val L%2=1;rw[Ta];exact h2),h4⟩
theorem rj{b:Bool}{P:Prop}(h:b=true↔P)(hn:¬P):b=false:=by
 cases b
 .rfl
 .exact absurd (h.1 rfl) hn
theorem Kj{b:Bool}{P:Prop}(h:b=true↔P)(hn:P):b=true:=h.2 hn
theorem ZL{b v:Bool}{P:Prop}(h:b=true↔P)(hn:P↔v=true):b=v:=by
 cases b<;>cases v<;>simp_all
theorem A6(s:Bool)(A:Option Addr)(c:Nat)(L:List Nat)(e:Int)(w:World)(b:Bool)(hs:Sl w A c L)(kR:-9223372036854775808<=e)(kx:e<=9223372036854775807)(hb:b=true↔oI s L e):
 Calls Tryz.prog 68 #[.agg #[.bool s,.slice A L.length c,.int .i64 e]] w fun r w'=>r = .returned (.bool b)/\iy w w':=by
 have CJ:=hs.cap;have zT:=hs.qe;by_cases hL:L=[]
 .subst hL
  rw[QW]at hb;cases s
  .by_cases h:e=0
   .subst h
    have:b=true:=by simpa using hb
    clear hb;subst this;go_enter Tryz.func68,Tryz.ntmps68;go_wp2;go_ret;exact⟨rfl,iy.alloc _ _⟩
   .have:b=false:=rj hb (by simp[h])
    have h':(e==0)=false:= av ;clear hb;subst this;go_enter Tryz.func68,Tryz.ntmps68;go_wp2;go_ret;exact⟨rfl,iy.alloc _ _⟩
  .have:b=false:=rj hb aj 
   clear hb;subst this;go_enter Tryz.func68,Tryz.ntmps68;go_wp2;go_ret;exact⟨rfl,iy.alloc _ _⟩
 .have sP:0<L.length:=dY.2 hL
  clear hL;obtain⟨ab,ao,rfl,_,c1⟩:=hs.lr sP;obtain⟨ab',ao',e',_,c2⟩:=hs.lr (i:=L.length-1) ae;cases e';have mB:=hs.ok.get sP;have px:=hs.ok.get (show L.length-1<L.length by omega);rw[QV (bd sP) (bd (show L.length-1<L.length by omega))]at hb;have c1':w.cell? ⟨ab,ao,none⟩=some (.int .u32 (L[0]:Int)):=c1;clear c1;generalize L[0]=x at *
  generalize L[L.length-1]=y at *
  have HB:=Lib.hid hb;clear hb;have H:=Lib.hid (fun w (h:Sl w (some ⟨ab,ao,none⟩) c L) (hl:L.length<=256)=>Mx s _ c L e w h ae kR kx);obtain⟨n,hn⟩:∃ n,n=L.length:=⟨_,rfl⟩
  rw[<-hn]at sP c2 H HB CJ ⊢;clear hn;generalize ue (val L) e=v at *
  have pM:((n:Int)==0)=false:= av ;by_cases h1:n<=256
  .have rN:decide ((n:Int)<=256)=true:= av 
   by_cases h2:x%2=1
   .have j8:((x:Int)%2==1)=true:= av 
    by_cases h3:y=0
    .have:b=false:=rj HB.out (by simp[h3])
     have CP:((y:Int) != 0)=false:= av ;clear HB;subst this;go_enter Tryz.func68,Tryz.ntmps68;go_wp2;go_ret;exact⟨rfl,iy.alloc _ _⟩
    .have:b=v:=ZL HB.out (by simp[h1,h2,h3])
     have CP:((y:Int) != 0)=true:= av ;clear HB;subst this;go_enter Tryz.func68,Tryz.ntmps68;go_wp2_with fail;refine(H.out _ (hs.alloc _) h1).mono ?_;rintro r w' ⟨rfl,mP⟩;go_wp2;go_ret;exact⟨rfl,(iy.alloc _ _).trans mP⟩
   .have:b=false:=rj HB.out (fun h=>h2 h.2.1)
    have j8:((x:Int)%2==1)=false:= av ;clear HB;subst this;go_enter Tryz.func68,Tryz.ntmps68;go_wp2;go_ret;exact⟨rfl,iy.alloc _ _⟩
  .have:b=false:=rj HB.out (fun h=>h1 h.1)
   have rN:decide ((n:Int)<=256)=false:= av ;clear HB;subst this;go_enter Tryz.func68,Tryz.ntmps68;go_wp2;go_ret;exact⟨rfl,iy.alloc _ _⟩
open Go.RowKit Fp
theorem MS{n k:Nat}(h:ib n<=32*k):(gV n).length<=k:=q9 (by rw[nF];exact kO.1 h)
theorem abF(d:Dy):oI d.neg (gV d.m) d.e↔d.ia:=by
 unfold oI;rw[jD];constructor
 .exact fun h=>h.2.2
 .intro h
  refine⟨vD _,?_,h⟩;rcases h.range with h0|⟨h1,_⟩
  .rw [h0,ni];simp
  .exact MS ae 
theorem oI.Eb{s:Bool}{L:List Nat}{e:Int}(h:oI s L e)(hk:iC L):L=gV (val L):=h.1.Eb hk
theorem oI.len{s:Bool}{L:List Nat}{e:Int}(h:oI s L e):L.length<=256:=h.2.1
theorem oI.bits{s:Bool}{L:List Nat}{e:Int}(h:oI s L e):ib (val L)<=4096:=by
 rcases h.2.2.range with h0|⟨h1,_⟩
 .simp only at h0;rw[h0];decide
 .exact h1
theorem oI.exp{s:Bool}{L:List Nat}{e:Int}(h:oI s L e):-16384<=e/\e<=16384:=by
 rcases h.2.2.range with h0|⟨_,h1,h2,_⟩
 .rcases h.2.2.canon with⟨_,_,h3⟩|h3
  .simp only at h3;omega
  .simp only at h0 h3;omega
 .exact ⟨h1,h2⟩
theorem KR(s:Bool)(A:Option Addr)(c:Nat)(L:List Nat)(e:Int)(w:World)(hs:Sl w A c L)(hd:oI s L e):
 Calls Tryz.prog 130 #[.agg #[.bool s,.slice A L.length c,.int .i64 e]] w fun r w'=>r = .returned (.int .i64 (Dy.iu ⟨s,val L,e⟩))/\iy w w':=by
 obtain⟨kR,kx⟩:=hd.exp;have hl:=hd.len;have Hz:=hd.bits;have HV:=Lib.hid (fun w (h:Sl w A c L)=>A6 s A c L e w true h ae ae (by simp[hd]));have HS:=Lib.hid (fun w (h:Sl w A c L)=>KQ A c L w h ae);by_cases h0:L=[]
 .subst h0
  go_enter Tryz.func130,Tryz.ntmps130;go_wp2_with fail;refine(HV.out _ (hs.alloc _)).mono ?_;rintro r w' ⟨rfl,hb⟩;have bx:=(ji.new w s A 0 c e).ext hb;have b0:=bx.c0;have b1:=bx.c1;have b2:=bx.c2;go_wp2;go_ret;exact⟨rfl,(iy.alloc _ _).trans hb⟩
 .have sP:0<L.length:=dY.2 h0
  have rU:val L≠0:=by have:=hd.1.y8 h0;omega
  have ht:=Lib.hid (show Dy.iu ⟨s,val L,e⟩=ib (val L)+e by unfold Dy.iu;rw[aQ rU]);clear h0 rU;generalize Dy.iu ⟨s,val L,e⟩=t at *
  generalize ib (val L)=q at *
  have hw:IntKind.i64.wrap ((q:Int)+e)=q+e:=i64_in _ ae ae;have pM:((L.length:Int)==0)=false:=aJ ae;go_enter Tryz.func130,Tryz.ntmps130;go_wp2_with fail;refine(HV.out _ (hs.alloc _)).mono ?_;rintro r w' ⟨rfl,hb⟩;have bx:=(ji.new w s A L.length c e).ext hb;have b0:=bx.c0;have b1:=bx.c1;have b2:=bx.c2;have mK:=(hs.alloc _).below hb;go_wp2_with fail;go_region_held3 (fun w'=>w'.cell? ⟨w.heap.size,1,none⟩=some (.slice A L.length c)/\w'.cell? ⟨w.heap.size,2,none⟩=some (.int .i64 e)) (go_keep)
   (first|(go_at_call 161;refine(HS.out _ ?_).mono ?_;(exact mK.drew);rintro r w'' ⟨rfl,rfl⟩))
  go_wp2;go_ret;exact⟨oo (by rw[ht.out]),Below.drew ((iy.alloc _ _).trans hb)⟩
theorem abH(s:Bool)(A:Option Addr)(c:Nat)(L:List Nat)(e:Int)(w:World)(hs:Sl w A c L)(hd:oI s L e):
 Calls Tryz.prog 295 #[.agg #[.bool s,.slice A L.length c,.int .i64 e]] w fun r w'=>r = .returned (.int .i64 (ib (val L)))/\iy w w':=by
 obtain⟨kR,kx⟩:=hd.exp;have hl:=hd.len;have HV:=Lib.hid (fun w (h:Sl w A c L)=>A6 s A c L e w true h ae ae (by simp[hd]));have HS:=Lib.hid (fun w (h:Sl w A c L)=>KQ A c L w h ae);go_enter Tryz.func295,Tryz.ntmps295;go_wp2_with fail;refine(HV.out _ (hs.alloc _)).mono ?_;rintro r w' ⟨rfl,hb⟩;have bx:=(ji.new w s A L.length c e).ext hb;have b0:=bx.c0;have b1:=bx.c1;have b2:=bx.c2;go_wp2_with fail;refine(HS.out _ ((hs.alloc _).below hb)).mono ?_;rintro r w' ⟨rfl,rfl⟩;go_wp2;go_ret;exact⟨rfl,(iy.alloc _ _).trans hb⟩
theorem KP(s:Bool)(A:Option Addr)(c:Nat)(L:List Nat)(e:Int)(w:World)(hs:Sl w A c L)(hd:oI s L e):
 Calls Tryz.prog 35 #[.agg #[.bool s,.slice A L.length c,.int .i64 e]] w fun r w'=>r = .returned (.int .i64 (Dy.iJ ⟨s,val L,e⟩))/\iy w w':=by
 obtain⟨kR,kx⟩:=hd.exp;have hl:=hd.len;have HV:=Lib.hid (fun w (h:Sl w A c L)=>A6 s A c L e w true h ae ae (by simp[hd]));by_cases h0:L=[]
 .subst h0
  go_enter Tryz.func35,Tryz.ntmps35;go_wp2_with fail;refine(HV.out _ (hs.alloc _)).mono ?_;rintro r w' ⟨rfl,hb⟩;have bx:=(ji.new w s A 0 c e).ext hb;have b0:=bx.c0;have b1:=bx.c1;have b2:=bx.c2;go_wp2;go_ret;exact⟨rfl,(iy.alloc _ _).trans hb⟩
 .have sP:0<L.length:=dY.2 h0
  have rU:val L≠0:=by have:=hd.1.y8 h0;omega
  have ht:=Lib.hid (show Dy.iJ ⟨s,val L,e⟩=if s then -1 else 1 by unfold Dy.iJ;rw[aQ rU]);clear h0 rU;generalize Dy.iJ ⟨s,val L,e⟩=t at *
  have pM:((L.length:Int)==0)=false:=aJ ae;go_enter Tryz.func35,Tryz.ntmps35;go_wp2_with fail;refine(HV.out _ (hs.alloc _)).mono ?_;rintro r w' ⟨rfl,hb⟩;have bx:=(ji.new w s A L.length c e).ext hb;have b0:=bx.c0;have b1:=bx.c1;have b2:=bx.c2;cases s
  .go_wp2
   go_ret;exact⟨oo (by rw[ht.out];rfl),(iy.alloc _ _).trans hb⟩
  .go_wp2
   go_ret;exact⟨oo (by rw[ht.out];rfl),(iy.alloc _ _).trans hb⟩
open Go.RowKit Fp
theorem acK(e:Int)(w:World)(b:Bool)(hb:b=true↔(-32768<=e/\e<=32768)):
 Calls Tryz.prog 77 #[.int .i64 e] w fun r w'=>r = .returned (.bool b)/\w=w':=by
 by_cases h1:-32768<=e
 .have d1:decide (-32768<=e)=true:=by simpa using h1
  by_cases h2:e<=32768
  .have d2:decide (e<=32768)=true:=by simpa using h2
   have:=Kj hb ⟨h1,h2⟩;clear hb;subst this;go_enter Tryz.func77,Tryz.ntmps77;go_wp2;go_ret;exact⟨rfl,rfl⟩
  .have d2:decide (e<=32768)=false:=by simpa using h2
   have:=rj hb (fun h=>h2 h.2);clear hb;subst this;go_enter Tryz.func77,Tryz.ntmps77;go_wp2;go_ret;exact⟨rfl,rfl⟩
 .have d1:decide (-32768<=e)=false:=by simpa using h1
  have:=rj hb (fun h=>h1 h.1);clear hb;subst this;go_enter Tryz.func77,Tryz.ntmps77;go_wp2;go_ret;exact⟨rfl,rfl⟩
theorem Qm(d:Dy)(A:Option Addr)(c:Nat)(w:World)(hs:Sl w A c (gV d.m))(hl:(gV d.m).length<=100000000)(kR:-10000000<=d.e)(kx:d.e<=10000000)(hd:mQ d):
 Calls Tryz.prog 78 #[.agg #[.bool d.neg,.slice A (gV d.m).length c,.int .i64 d.e]] w (sW w d 0):=by
 obtain⟨s,m,e⟩:=d;simp only at *
 have hr:ue m e=true:=by unfold ue;exact aS hd
 have HV:=Lib.hid (fun w (h:Sl w A c (gV m))=>Mx s A c (gV m) e w h hl ae ae);rw[jD,hr]at HV;clear hr hd;go_enter Tryz.func78,Tryz.ntmps78;go_wp2_with fail;refine(HV.out _ ((hs.alloc _).alloc _)).mono ?_;rintro r w' ⟨rfl,hb⟩;have bx:=((ji.new w s A (gV m).length c e).alloc (.cells #[.bool false,.slice none 0 0,.int .i64 0] 31)).ext hb;have by_:=(ji.new (w.alloc (.cells #[.bool s,.slice A (gV m).length c,.int .i64 e] 31)) false none 0 0 0).ext hb;have b0:=bx.c0;have b1:=bx.c1;have b2:=bx.c2;have bz:(w.alloc (.cells #[.bool s,.slice A (gV m).length c,.int .i64 e] 31)).heap.size=w.heap.size+1:= aj ;rw[bz]at by_;have c0:=by_.c0;have c1:=by_.c1;have c2:=by_.c2;have f0:=by_.fr 0;have f1:=by_.fr 1;have f2:=by_.fr 2;have mK:=((hs.alloc (.cells #[.bool s,.slice A (gV m).length c,.int .i64 e] 31)).alloc (.cells #[.bool false,.slice none 0 0,.int .i64 0] 31)).below hb;have mP:iy w w':=((iy.alloc _ _).trans (iy.alloc _ _)).trans hb;clear bz;go_wp2;exact uP rfl rfl rfl rfl (by_.set _ _ _ _ _) rfl (by_.qw mK _ _ _ _ _) (ji.ql mP ae _ _ _ _ _)
theorem aa5(d:Dy)(A:Option Addr)(c:Nat)(w:World)(hs:Sl w A c (gV d.m))(hl:(gV d.m).length<=100000000)(kR:-10000000<=d.e)(kx:d.e<=10000000)(hd:¬mQ d):
 Calls Tryz.prog 78 #[.agg #[.bool d.neg,.slice A (gV d.m).length c,.int .i64 d.e]] w (sW w jA 9):=by
 obtain⟨s,m,e⟩:=d;simp only at *
 have hr:ue m e=false:=by unfold ue;exact aT hd
 have HV:=Lib.hid (fun w (h:Sl w A c (gV m))=>Mx s A c (gV m) e w h hl ae ae);rw[jD,hr]at HV;clear hr hd;go_enter Tryz.func78,Tryz.ntmps78;go_wp2_with fail;refine(HV.out _ ((hs.alloc _).alloc _)).mono ?_;rintro r w' ⟨rfl,hb⟩;have by_:=(ji.new (w.alloc (.cells #[.bool s,.slice A (gV m).length c,.int .i64 e] 31)) false none 0 0 0).ext hb;have bz:(w.alloc (.cells #[.bool s,.slice A (gV m).length c,.int .i64 e] 31)).heap.size=w.heap.size+1:= aj ;rw[bz]at by_;have c0:=by_.c0;have c1:=by_.c1;have c2:=by_.c2;have f0:=by_.fr 0;have f1:=by_.fr 1;have f2:=by_.fr 2;have mP:iy w w':=((iy.alloc _ _).trans (iy.alloc _ _)).trans hb;have hz:gV jA.m=[]:=ni;have HZ:=Lib.hid hz;clear bz hz;go_wp2;exact uP rfl rfl rfl rfl (by_.set _ _ _ _ _) (by rw[HZ.out];rfl) (by rw[HZ.out];exact by_.qw (Sl.nil _) _ _ _ _ _) (ji.ql mP ae _ _ _ _ _)
theorem agy(s:Bool)(A:Option Addr)(c:Nat)(L:List Nat)(e:Int)(w:World)(hs:Sl w A c L)(hlen:L.length<=256)(kR:-32768<=e)(kx:e<=32768)(kp:Tb w)(hd:mQ (canon s (val L) e)):
 Calls Tryz.prog 262 #[.bool s,.slice A L.length c,.int .i64 e] w (sW w (canon s (val L) e) 0):=by
 have xk:decide (256<(L.length:Int))=false:=aT ae;have HE:=Lib.hid (fun w=>acK e w true (by simp[kR,kx]));have HC:=Lib.hid (fun w (h:Sl w A c L) (ht:Tb w)=>G4 s A c L e w h ae (by have:=oH L;unfold lV at this;omega) ae ae ht);have jc:(gV (canon s (val L) e).m).length<=100000000:=by
  unfold canon;split
  .simp [ni]
  .refine aX (q9 (k:=256) (bQ (bw _ _) ?_)) ag 
   exact bD (lZ hs.ok) (bh ag hlen)
 have me:-10000000<=(canon s (val L) e).e/\(canon s (val L) e).e<=10000000:=by
  unfold canon;split
  .simp
  .rename_i h0
   have:=DZ hs.ok h0;simp only;omega
 obtain⟨me,pk⟩:=me;have HK:=Lib.hid (fun A c w (h:Sl w A c (gV (canon s (val L) e).m))=>Qm _ A c w h jc me pk hd);generalize canon s (val L) e=d at *
 clear hd jc me pk;go_enter Tryz.func262,Tryz.ntmps262;go_wp2_with fail;refine(HE.out _).mono ?_;rintro r w' ⟨rfl,rfl⟩;go_wp2_with fail;refine(HC.out _ (hs.alloc _) (kp.alloc _)).mono ?_;rintro r w1 ⟨A1,c1,rfl,sQ,jc⟩;go_wp2_with fail;refine(HK.out _ _ _ sQ).mono ?_;rintro r w2 ⟨A2,c2,rfl,kD,me⟩;have hb:=jc.trans me;have bx:=(ji.new w false none 0 0 0).ext hb;have b0:=bx.c0;have b1:=bx.c1;have b2:=bx.c2;have f0:=bx.fr 0;have f1:=bx.fr 1;have f2:=bx.fr 2;go_wp2;exact uP rfl rfl rfl rfl (bx.set _ _ _ _ _) rfl (bx.qw kD _ _ _ _ _) (ji.ql ((iy.alloc _ _).trans hb) (aU _) _ _ _ _ _)
open Go.RowKit Fp
theorem alr(x:Nat)(hx:x<4294967296):bits BinOp.and IntKind.u32 (x:Int) 1=((x%2:Nat):Int):=by
 rw[show(1:Int)=((1:Nat):Int)from rfl,bits_and_u32_nat _ _ hx ag,gi]
theorem afj{m:Nat}(h0:m≠0)(e:Int):ue m e=true↔(ib m<=4096 /\ -16384<=e/\e<=16384/\(ib m:Int)+e<=16384):=by
 have h:ue m e=true↔mQ ⟨false,m,e⟩:=gl;rw[h];constructor
 .rintro (h|h)
  .exact absurd h h0
  .exact h
 .exact fun h=>.inr h
theorem Jp(s:Bool)(A:Option Addr)(c:Nat)(L:List Nat)(e:Int)(w:World)(b:Bool)(hs:Sl w A c L)(kR:-9223372036854775808<=e)(kx:e<=9223372036854775807)(hb:b=true↔oI s L e):
 Calls Tryz.prog 46 #[.agg #[.bool s,.slice A L.length c,.int .i64 e]] w fun r w'=>r = .returned (.bool b)/\iy w w':=by
 have CJ:=hs.cap;have zT:=hs.qe;by_cases hL:L=[]
 .subst hL
  rw[QW]at hb;cases s
  .by_cases h:e=0
   .subst h
    have:b=true:=by simpa using hb
    clear hb;subst this;go_enter Tryz.func46,Tryz.ntmps46;go_wp2;go_ret;exact⟨rfl,iy.alloc _ _⟩
   .have:b=false:=rj hb (by simp[h])
    have h':(e==0)=false:= av ;clear hb;subst this;go_enter Tryz.func46,Tryz.ntmps46;go_wp2;go_ret;exact⟨rfl,iy.alloc _ _⟩
  .have:b=false:=rj hb aj 
   clear hb;subst this;go_enter Tryz.func46,Tryz.ntmps46;go_wp2;go_ret;exact⟨rfl,iy.alloc _ _⟩
 .have sP:0<L.length:=dY.2 hL
  obtain⟨ab,ao,rfl,_,c1⟩:=hs.lr sP;obtain⟨ab',ao',e',_,c2⟩:=hs.lr (i:=L.length-1) ae;cases e';have mB:=hs.ok.get sP;have px:=hs.ok.get (show L.length-1<L.length by omega);rw[QV (bd sP) (bd (show L.length-1<L.length by omega))]at hb;have c1':w.cell? ⟨ab,ao,none⟩=some (.int .u32 (L[0]:Int)):=c1;have Hv:=Lib.hid (show L[L.length-1]≠0->nB L from fun h=>(AK L).2 (fun _=>h));have vX:=Lib.hid (show L[L.length-1]≠0->val L≠0 from fun h=>by have:=((AK L).2 (fun _=>h)).y8 hL;omega);clear c1 hL;generalize L[0]=x at *
  generalize L[L.length-1]=y at *
  have HB:=Lib.hid hb;clear hb;have H:=Lib.hid (fun w (h:Sl w (some ⟨ab,ao,none⟩) c L) (hl:L.length<=256) (ht:nB L)=>WD _ c L w h ht ae);have hr:Hid (val L≠0->(ue (val L) e=true↔(ib (val L)<=4096 /\ -16384<=e/\e<=16384/\(ib (val L):Int)+e<=16384))):=fun h0=>by
   exact afj h0 e
  obtain⟨n,hn⟩:∃ n,n=L.length:=⟨_,rfl⟩
  rw[<-hn]at sP c2 H HB CJ ⊢;have HN:=Lib.hid hn;clear hn;have pM:((n:Int)==0)=false:= av ;by_cases h1:n<=256
  .have rN:decide (256<(n:Int))=false:=aT ae 
   by_cases h3:y=0
   .have:b=false:=rj HB.out (by simp[h3])
    have CP:((y:Int)==0)=true:= av ;clear HB hr;subst this;go_enter Tryz.func46,Tryz.ntmps46;go_wp2;go_ret;exact⟨rfl,iy.alloc _ _⟩
   .have CP:((y:Int)==0)=false:=aJ ae 
    have hand:=alr x mB;by_cases h2:x%2=1
    .have j8:(bits BinOp.and IntKind.u32 (x:Int) 1==0)=false:=by rw[hand,h2];rfl
     clear hand;have h0:=vX.out h3;have Br:=Hv.out h3;have yd:ib (val L)<=32*n:=kO.2 (by rw[<-nF,HN.out];exact lZ hs.ok);have HB2:Hid (b=true↔(ib (val L)<=4096 /\ -16384<=e/\e<=16384/\(ib (val L):Int)+e<=16384)):=by
      show b=true↔_;rw[HB.out,hr.out h0];simp[h1,h2,h3]
     have H2:=Lib.hid (fun w h=>H.out w h h1 Br);clear HB hr h0 Br Hv vX H;generalize ib (val L)=q at *
     by_cases h4:-16384<=e
     .have d4:decide (e < -16384)=false:=aT ae 
      by_cases h5:e<=16384
      .have d5:decide (16384<e)=false:=aT ae 
       by_cases h6:q<=4096
       .have d6:decide ((q:Int)<=4096)=true:=aS ae 
        by_cases h7:(q:Int)+e<=16384
        .have d7:decide ((q:Int)+e<=16384)=true:=aS h7
         have:=Kj HB2.out ⟨h6,h4,h5,h7⟩;clear HB2;subst this;go_enter Tryz.func46,Tryz.ntmps46;go_wp2_with fail;refine(H2.out _ (hs.alloc _)).mono ?_;rintro r w' ⟨rfl,rfl⟩;go_wp2;go_ret;exact⟨rfl,iy.alloc _ _⟩
        .have d7:decide ((q:Int)+e<=16384)=false:=aT h7
         have:=rj HB2.out (fun h=>h7 h.2.2.2);clear HB2;subst this;go_enter Tryz.func46,Tryz.ntmps46;go_wp2_with fail;refine(H2.out _ (hs.alloc _)).mono ?_;rintro r w' ⟨rfl,rfl⟩;go_wp2;go_ret;exact⟨rfl,iy.alloc _ _⟩
       .have d6:decide ((q:Int)<=4096)=false:=aT ae 
        have:=rj HB2.out (fun h=>h6 h.1);clear HB2;subst this;go_enter Tryz.func46,Tryz.ntmps46;go_wp2_with fail;refine(H2.out _ (hs.alloc _)).mono ?_;rintro r w' ⟨rfl,rfl⟩;go_wp2;go_ret;exact⟨rfl,iy.alloc _ _⟩
      .have d5:decide (16384<e)=true:=aS ae 
       have:=rj HB2.out (fun h=>h5 h.2.2.1);clear HB2;subst this;go_enter Tryz.func46,Tryz.ntmps46;go_wp2;go_ret;exact⟨rfl,iy.alloc _ _⟩
     .have d4:decide (e < -16384)=true:=aS ae 
      have:=rj HB2.out (fun h=>h4 h.2.1);clear HB2;subst this;go_enter Tryz.func46,Tryz.ntmps46;go_wp2;go_ret;exact⟨rfl,iy.alloc _ _⟩
    .have j8:(bits BinOp.and IntKind.u32 (x:Int) 1==0)=true:=by rw[hand,show x%2=0 by omega];rfl
     have:b=false:=rj HB.out (fun h=>h2 h.2.1);clear HB hand hr;subst this;go_enter Tryz.func46,Tryz.ntmps46;go_wp2;go_ret;exact⟨rfl,iy.alloc _ _⟩
  .have:b=false:=rj HB.out (fun h=>h1 h.1)
   have rN:decide (256<(n:Int))=true:=aS ae;clear HB hr;subst this;go_enter Tryz.func46,Tryz.ntmps46;go_wp2;go_ret;exact⟨rfl,iy.alloc _ _⟩
open Go.RowKit Fp
theorem ai2(e:Int)(w:World)(b:Bool)(hb:b=true↔(-32768<=e/\e<=32768)):
 Calls Tryz.prog 74 #[.int .i64 e] w fun r w'=>r = .returned (.bool b)/\w=w':=by
 by_cases h1:-32768<=e
 .have d1:decide (-32768<=e)=true:=by simpa using h1
  by_cases h2:e<=32768
  .have d2:decide (e<=32768)=true:=by simpa using h2
   have:=Kj hb ⟨h1,h2⟩;clear hb;subst this;go_enter Tryz.func74,Tryz.ntmps74;go_wp2;go_ret;exact⟨rfl,rfl⟩
  .have d2:decide (e<=32768)=false:=by simpa using h2
   have:=rj hb (fun h=>h2 h.2);clear hb;subst this;go_enter Tryz.func74,Tryz.ntmps74;go_wp2;go_ret;exact⟨rfl,rfl⟩
 .have d1:decide (-32768<=e)=false:=by simpa using h1
  have:=rj hb (fun h=>h1 h.1);clear hb;subst this;go_enter Tryz.func74,Tryz.ntmps74;go_wp2;go_ret;exact⟨rfl,rfl⟩
theorem ai0(d:Dy)(A:Option Addr)(c:Nat)(w:World)(hs:Sl w A c (gV d.m))(hl:(gV d.m).length<=100000000)(kR:-10000000<=d.e)(kx:d.e<=10000000)(hd:d.ia):
 Calls Tryz.prog 75 #[.agg #[.bool d.neg,.slice A (gV d.m).length c,.int .i64 d.e]] w (sW w d 0):=by
 obtain⟨s,m,e⟩:=d;simp only at *
 have HV:=Lib.hid (fun w (h:Sl w A c (gV m))=>Jp s A c (gV m) e w true h ae ae (iff_of_true rfl ((abF ⟨s,m,e⟩).2 hd)));clear hd;go_enter Tryz.func75,Tryz.ntmps75;go_wp2_with fail;refine(HV.out _ ((hs.alloc _).alloc _)).mono ?_;rintro r w' ⟨rfl,hb⟩;have bx:=((ji.new w s A (gV m).length c e).alloc (.cells #[.bool false,.slice none 0 0,.int .i64 0] 31)).ext hb;have by_:=(ji.new (w.alloc (.cells #[.bool s,.slice A (gV m).length c,.int .i64 e] 31)) false none 0 0 0).ext hb;have b0:=bx.c0;have b1:=bx.c1;have b2:=bx.c2;have bz:(w.alloc (.cells #[.bool s,.slice A (gV m).length c,.int .i64 e] 31)).heap.size=w.heap.size+1:= aj ;rw[bz]at by_;have c0:=by_.c0;have c1:=by_.c1;have c2:=by_.c2;have f0:=by_.fr 0;have f1:=by_.fr 1;have f2:=by_.fr 2;have mK:=((hs.alloc (.cells #[.bool s,.slice A (gV m).length c,.int .i64 e] 31)).alloc (.cells #[.bool false,.slice none 0 0,.int .i64 0] 31)).below hb;have mP:iy w w':=((iy.alloc _ _).trans (iy.alloc _ _)).trans hb;clear bz;go_wp2;exact uP rfl rfl rfl rfl (by_.set _ _ _ _ _) rfl (by_.qw mK _ _ _ _ _) (ji.ql mP ae _ _ _ _ _)
theorem ajg(s:Bool)(A:Option Addr)(c:Nat)(L:List Nat)(e:Int)(w:World)(hs:Sl w A c L)(ht:nB L):
 Calls Tryz.prog 47 #[.agg #[.bool s,.slice A L.length c,.int .i64 e]] w fun r w'=>r = .returned (.int .i64 (Dy.iJ ⟨s,val L,e⟩))/\iy w w':=by
 have hl:=hs.len;by_cases h0:L=[]
 .subst h0
  go_enter Tryz.func47,Tryz.ntmps47;go_wp2;go_ret;exact⟨rfl,iy.alloc _ _⟩
 .have sP:0<L.length:=dY.2 h0
  have rU:val L≠0:=by have:=ht.y8 h0;omega
  have ht:=Lib.hid (show Dy.iJ ⟨s,val L,e⟩=if s then -1 else 1 by unfold Dy.iJ;rw[aQ rU]);clear h0 rU;generalize Dy.iJ ⟨s,val L,e⟩=t at *
  have pM:((L.length:Int)==0)=false:=aJ ae;cases s
  .go_enter Tryz.func47,Tryz.ntmps47
   go_wp2;go_ret;exact⟨oo (by rw[ht.out];rfl),iy.alloc _ _⟩
  .go_enter Tryz.func47,Tryz.ntmps47
   go_wp2;go_ret;exact⟨oo (by rw[ht.out];rfl),iy.alloc _ _⟩
theorem ajj(s:Bool)(A:Option Addr)(c:Nat)(L:List Nat)(e:Int)(w:World)(hs:Sl w A c L)(ht:nB L)(hl:L.length<=100000)(kR:-1000000<=e)(kx:e<=1000000):
 Calls Tryz.prog 97 #[.agg #[.bool s,.slice A L.length c,.int .i64 e]] w fun r w'=>r = .returned (.int .i64 (Dy.iu ⟨s,val L,e⟩))/\iy w w':=by
 have HS:=Lib.hid (fun w (h:Sl w A c L)=>WD A c L w h ht ae);have yd:ib (val L)<=32*L.length:=kO.2 (by rw[<-nF];exact lZ hs.ok);by_cases h0:L=[]
 .subst h0
  go_enter Tryz.func97,Tryz.ntmps97;go_wp2;go_ret;exact⟨rfl,iy.alloc _ _⟩
 .have sP:0<L.length:=dY.2 h0
  have rU:val L≠0:=by have:=ht.y8 h0;omega
  have ht:=Lib.hid (show Dy.iu ⟨s,val L,e⟩=ib (val L)+e by unfold Dy.iu;rw[aQ rU]);clear h0 rU;generalize Dy.iu ⟨s,val L,e⟩=t at *
  generalize ib (val L)=q at *
  have hw:IntKind.i64.wrap ((q:Int)+e)=q+e:=i64_in _ ae ae;have pM:((L.length:Int)==0)=false:=aJ ae;have mK:=hs.alloc (.cells #[.bool s,.slice A L.length c,.int .i64 e] 31);go_enter Tryz.func97,Tryz.ntmps97;go_wp2_with fail;go_region_held3 (fun w'=>w'.cell? ⟨w.heap.size,1,none⟩=some (.slice A L.length c)/\w'.cell? ⟨w.heap.size,2,none⟩=some (.int .i64 e)) (go_keep)
   (first|(go_at_call 94;refine(HS.out _ ?_).mono ?_;(exact mK.drew);rintro r w'' ⟨rfl,rfl⟩))
  go_wp2;go_ret;exact⟨oo (by rw[ht.out]),Below.drew (iy.alloc _ _)⟩
theorem ai8(s:Bool)(A:Option Addr)(c:Nat)(L:List Nat)(e:Int)(w:World)(hs:Sl w A c L)(ht:nB L):
 Calls Tryz.prog 99 #[.agg #[.bool s,.slice A L.length c,.int .i64 e]] w (tI w (iF ⟨s,val L,e⟩)):=by
 have hl:=hs.len;have HL:=Lib.hid (ht.Eb hs.ok);by_cases h0:L=[]
 .subst h0
  have HZ:=Lib.hid ni;cases s
  .go_enter Tryz.func99,Tryz.ntmps99
   go_wp2;exact sI (d:=iF ⟨false,val [],e⟩) rfl rfl rfl (ji.pz aj _ _ _ _ _) (by show _=(gV 0).length;rw[HZ.out];rfl) (by show Sl _ _ _ (gV 0);rw[HZ.out];exact(hs.alloc _).alloc _) ((iy.alloc _ _).trans (iy.alloc _ _))
  .go_enter Tryz.func99,Tryz.ntmps99
   go_wp2;exact sI (d:=iF ⟨true,val [],e⟩) rfl rfl rfl (ji.pz aj _ _ _ _ _) (by show _=(gV 0).length;rw[HZ.out];rfl) (by show Sl _ _ _ (gV 0);rw[HZ.out];exact(hs.alloc _).alloc _) ((iy.alloc _ _).trans (iy.alloc _ _))
 .have sP:0<L.length:=dY.2 h0
  have rU:val L≠0:=by have:=ht.y8 h0;omega
  have hd:=Lib.hid (show iF ⟨s,val L,e⟩=⟨!s,val L,e⟩by unfold iF;simp[rU]);clear h0 rU ht;rw[hd.out];cases s
  .go_enter Tryz.func99,Tryz.ntmps99
   go_wp2;exact sI (d:=⟨!false,val L,e⟩) rfl rfl rfl (ji.pz aj _ _ _ _ _) (by show _=(gV (val L)).length;rw[<-HL.out]) (by show Sl _ _ _ (gV (val L));rw[<-HL.out];exact(hs.alloc _).alloc _) ((iy.alloc _ _).trans (iy.alloc _ _))
  .go_enter Tryz.func99,Tryz.ntmps99
   go_wp2;exact sI (d:=⟨!true,val L,e⟩) rfl rfl rfl (ji.pz aj _ _ _ _ _) (by show _=(gV (val L)).length;rw[<-HL.out]) (by show Sl _ _ _ (gV (val L));rw[<-HL.out];exact(hs.alloc _).alloc _) ((iy.alloc _ _).trans (iy.alloc _ _))
open Go.RowKit Fp
open Go.RowKit Fp
theorem Sl.JM(w:World)(g:Nat)(hg:w.heap.size=g)(y z:Int)(p q:Nat)(e:y=(p:Int))(e':z=(q:Int))(hp:p<4294967296)(hq:q<4294967296):
 Sl (w.alloc (.cells #[.int .u32 y,.int .u32 z] 79)) (some ⟨g,0,none⟩) 2 [p,q]:=by
 subst e e' hg;refine⟨aU _,ag,iC.cons hp (iC.cons hq iC.nil),(fun h=>by cases h),fun i y hy=>?_⟩;obtain⟨h1,h2⟩:=bU.1 hy;simp at h1;refine⟨_,_,rfl,aj,?_⟩;rw[bW,World.cell?_alloc_at _ _ _ _ rfl];rcases i with _|_|i
 .simp at h2;subst h2;rfl
 .simp at h2;subst h2;rfl
 .omega
theorem ai5(n:Nat)(w:World)(hn:n<4294967296):
 Calls Tryz.prog 81 #[.int .i64 n] w (tI w (canon false n 0)):=by
 have hm:=vJ n ae;have u7:(n:Int)%4294967296=n:= ae ;rw[u7]at hm;have hd:(n:Int)/4294967296=0:= ae ;have iD:¬(n:Int)<0:= ae ;have LP:decide ((n:Int)<0)=false:=aT iD;have hu:IntKind.u64.wrap (n:Int)=n:=by rw[IntKind.wrap_u64];omega
 have HC:=Lib.hid (fun(A:Option Addr) c w (h:Sl w A c [n,0])=>FL false A c [n,0] 0 w h aj ag ag);have hv:val [n,0]=n:= aj ;rw[hv]at HC;clear hv;generalize canon false n 0=d at *
 go_enter Tryz.func81,Tryz.ntmps81;go_wp2_with fail;refine(HC.out _ _ _ (Sl.JM _ _ aj _ _ n 0 rfl rfl hn ag)).mono ?_;rintro r w1 ⟨A1,c1,rfl,sQ,jc⟩;have jI:iy (w.alloc (.cells #[.bool false,.slice none 0 0,.int .i64 0] 31)) w1:=(iy.alloc _ _).trans jc;have bx:=(ji.new w false none 0 0 0).ext jI;have b0:=bx.c0;have b1:=bx.c1;have b2:=bx.c2;have f0:=bx.fr 0;have f1:=bx.fr 1;have f2:=bx.fr 2;go_wp2;exact sI rfl rfl rfl (bx.set _ _ _ _ _) rfl (bx.qw sQ _ _ _ _ _) (ji.ql ((iy.alloc _ _).trans jI) (aU _) _ _ _ _ _)
open Go.RowKit Fp
theorem Dz{w:World}{g g' i:Nat}{v a b c:Value}(h:w.cell? ⟨g,i,none⟩=some v)(kI:g'≠g):
 (((w.setCell ⟨g',0,none⟩ a).setCell ⟨g',1,none⟩ b).setCell ⟨g',2,none⟩ c).cell? ⟨g,i,none⟩=some v:=by
 rw[World.cell?_setCell_other _ _ _ _ an,World.cell?_setCell_other _ _ _ _ an,World.cell?_setCell_other _ _ _ _ an];exact h
end Go.Proofs.YtdgnpeddgdclhaaGreatDoor
namespace Go.Proofs.YtdgnpeddgdclhaaGreatDoor.Fp
theorem Ci(s:Bool)(e:Int):canon s 0 e=jA:=by unfold canon;rw[aR rfl];rfl
theorem GJ(s:Bool)(x:Nat)(k:Int):kV (if s then -(x:Int)else(x:Int)) k=canon s x k:=by
 unfold kV;cases s
 .have h:decide ((x:Int)<0)=false:=aT ae 
  simp only[bq,a6];rw[h,dA]
 .by_cases h:x=0
  .subst h;simp[Ci]
  .have h:decide (-(x:Int)<0)=true:=aS ae 
   simp only[bk];rw[h,ff,dA]
theorem XG{s:Bool}{m n:Nat}{e f k:Int}(hm:m≠0)(hn:n≠0)(hk:min e f=k):
 iI ⟨s,m,e⟩ ⟨s,n,f⟩=canon s (m*2^(e-k).toNat+n*2^(f-k).toNat) k:=by
 unfold iI;rw[aQ hm,aQ hn];simp only[hk];rw[<-GJ];unfold Dy.num Dy.jQ;cases s
 .simp
 .simp;congr 1;omega
theorem XE{s t:Bool}{m n:Nat}{e f k:Int}(hm:m≠0)(hn:n≠0)(hk:min e f=k)(hs:s≠t)(pX:n*2^(f-k).toNat<=m*2^(e-k).toNat):
 iI ⟨s,m,e⟩ ⟨t,n,f⟩=canon s (m*2^(e-k).toNat-n*2^(f-k).toNat) k:=by
 unfold iI;rw[aQ hm,aQ hn];simp only[hk];rw[<-GJ];unfold Dy.num Dy.jQ;simp only;generalize m*2^(e-k).toNat=x at *
 generalize n*2^(f-k).toNat=y at *
 congr 1;cases s<;>cases t<;>simp at hs ⊢ <;> omega
theorem XF{s t:Bool}{m n:Nat}{e f k:Int}(hm:m≠0)(hn:n≠0)(hk:min e f=k)(hs:s≠t)(iD:m*2^(e-k).toNat<n*2^(f-k).toNat):
 iI ⟨s,m,e⟩ ⟨t,n,f⟩=canon t (n*2^(f-k).toNat-m*2^(e-k).toNat) k:=by
 unfold iI;rw[aQ hm,aQ hn];simp only[hk];rw[<-GJ];unfold Dy.num Dy.jQ;simp only;generalize m*2^(e-k).toNat=x at *
 generalize n*2^(f-k).toNat=y at *
 congr 1;cases s<;>cases t<;>simp at hs ⊢ <;> omega
theorem agd{L:List Nat}(h:iC L)(n:Nat):(gV (val L*2^n)).length<=L.length+n/32+1:=by
 refine q9 ?_;have h1:=lZ h;rw[nF]at h1 ⊢;have h2:val L*2^n<2^(32*L.length)*2^n:=cC h1 (aY ag);rw[<-aV]at h2;exact bD h2 (bh ag ae)
theorem Ui{a b k:Nat}(ha:(gV a).length<=k)(hb:(gV b).length<=k):(gV (a+b)).length<=k+1:=by
 refine q9 ?_;have h1:=uh ha;have h2:=uh hb;rw[aZ];omega
theorem lX{a b:Nat}(h:a<=b):(gV a).length<=(gV b).length:=
 q9 (bQ h (uh (aU _)))
end Go.Proofs.YtdgnpeddgdclhaaGreatDoor.Fp
namespace Go.Proofs.YtdgnpeddgdclhaaGreatDoor
open Go.RowKit Fp
def mq(a b:Dy):Dy:=canon (a.neg != b.neg) (a.m*b.m) (a.e+b.e)
theorem agc{a b k l:Nat}(ha:(gV a).length<=k)(hb:(gV b).length<=l):(gV (a*b)).length<=k+l:=by
 have h1:=uh ha;have h2:=uh hb;refine q9 ?_;rw[aV];exact gj h1 h2
theorem MT{L:List Nat}{k:Nat}(h:iC L)(hl:L.length<=k):(gV (val L)).length<=k:=
 q9 (bD (lZ h) (bh ag hl))
theorem aja(s : Bool)(A : Option Addr)(c : Nat)(L : List Nat)(e : Int)(t : Bool)(B : Option Addr)(d : Nat)(M : List Nat)(f : Int)(w : World)
    (hs : Sl w A c L) (hr : Sl w B d M) (h1 : L.length<=1000) (h2 : M.length<=1000) (e1 : -200000<=e) (e2 : e<=200000) (f1 : -200000<=f) (f2 : f<=200000):
    Calls Tryz.prog 154 #[.agg #[.bool s,.slice A L.length c,.int .i64 e],.agg #[.bool t,.slice B M.length d,.int .i64 f]] w (tI w (mq ⟨s,val L,e⟩ ⟨t,val M,f⟩)) := by
  have hE : iy w (((w.alloc (.cells #[.bool s,.slice A L.length c,.int .i64 e] 31)).alloc (.cells #[.bool t,.slice B M.length d,.int .i64 f] 31)).alloc (.cells #[.bool false,.slice none 0 0,.int .i64 0] 31)) := ((iy.alloc _ _).trans (iy.alloc _ _)).trans (iy.alloc _ _);have hw : IntKind.i64.wrap (e+f)=e+f := i64_in _ ae ae;have kP := (((ji.new w s A L.length c e).alloc (.cells #[.bool t,.slice B M.length d,.int .i64 f] 31)).alloc (.cells #[.bool false,.slice none 0 0,.int .i64 0] 31)).drew;have kS := ((ji.pz (W := w.alloc (.cells #[.bool s,.slice A L.length c,.int .i64 e] 31)) (g := w.heap.size+1) aj t B M.length d f).alloc (.cells #[.bool false,.slice none 0 0,.int .i64 0] 31)).drew;have bx3 := (ji.pz (W := (w.alloc (.cells #[.bool s,.slice A L.length c,.int .i64 e] 31)).alloc (.cells #[.bool t,.slice B M.length d,.int .i64 f] 31)) (g := w.heap.size+1+1) aj false none 0 0 0).drew;have ub := (hs.below hE).drew;have yz := (hr.below hE).drew;have HE := Lib.hid (hE.trans (iy.drew _));clear hE;have hlen := agc (a := val L) (b := val M) (k := 1000) (l := 1000) (MT hs.ok h1) (MT hr.ok h2);have HO := Lib.hid (fun A c w (h : Sl w A c (gV (val L*val M))) => FL (s != t) A c (gV (val L*val M)) (e+f) w h ae ae ae);rw[jD]at HO;have hD : mq ⟨s,val L,e⟩ ⟨t,val M,f⟩=canon (s != t) (val L*val M) (e+f) := rfl;rw[hD];have HT := Lib.hid (fun w (h : Sl w A c L) (k : Sl w B d M) => aji A B c d L M w h k ae ae);clear hD hlen;generalize canon (s != t) (val L*val M) (e+f)=D at *
  generalize val L*val M=x at *
  go_enter Tryz.func154,Tryz.ntmps154;go_wp2_with fail;go_region_held3 (fun w' => w'.cell? ⟨w.heap.size,0,none⟩=some (.bool s)/\w'.cell? ⟨w.heap.size,1,none⟩=some (.slice A L.length c)/\w'.cell? ⟨w.heap.size,2,none⟩=some (.int .i64 e)/\w'.cell? ⟨w.heap.size+1,0,none⟩=some (.bool t)/\w'.cell? ⟨w.heap.size+1,1,none⟩=some (.slice B M.length d)/\w'.cell? ⟨w.heap.size+1,2,none⟩=some (.int .i64 f))
    (first
      |exact⟨kP.c0,kP.c1,kP.c2,kS.c0,kS.c1,kS.c2⟩
      |exact⟨(kP.ext pn).c0,(kP.ext pn).c1,(kP.ext pn).c2,(kS.ext pn).c0,(kS.ext pn).c1,(kS.ext pn).c2⟩
      |exact⟨(kP.ext (pn.trans j9)).c0,(kP.ext (pn.trans j9)).c1,(kP.ext (pn.trans j9)).c2,(kS.ext (pn.trans j9)).c0,(kS.ext (pn.trans j9)).c1,(kS.ext (pn.trans j9)).c2⟩
      |exact⟨Dz (kP.ext (pn.trans j9)).c0 ae,Dz (kP.ext (pn.trans j9)).c1 ae,Dz (kP.ext (pn.trans j9)).c2 ae,Dz (kS.ext (pn.trans j9)).c0 ae,Dz (kS.ext (pn.trans j9)).c1 ae,Dz (kS.ext (pn.trans j9)).c2 ae⟩)
    (first
      | (go_at_call 189
         refine(HT.out _ ub yz).mono ?_;rintro r wp ⟨Ap,cp,rfl,Mj,pn⟩)
      | (go_at_call 76
         refine(HO.out _ _ _ Mj).mono ?_;rintro r wo ⟨Ao,co,rfl,hso,j9⟩;have bz := bx3.ext (pn.trans j9);have z0 := bz.c0;have z1 := bz.c1;have z2 := bz.c2;have y0 := bz.fr 0;have y1 := bz.fr 1;have y2 := bz.fr 2))
  go_wp2;exact sI rfl rfl rfl (bz.set _ _ _ _ _) rfl (bz.qw hso _ _ _ _ _) (ji.ql (HE.out.trans (pn.trans j9)) ae _ _ _ _ _)
end Go.Proofs.YtdgnpeddgdclhaaGreatDoor
namespace Go.Proofs.YtdgnpeddgdclhaaGreatDoor.Fp
theorem agx{d:Dy}{j k:Int}(h1:j<=k)(h2:k<=d.e):d.jQ j=d.jQ k*2^(k-j).toNat:=by
 unfold Dy.jQ;rw[bc,<-aV];congr 2;omega
theorem I4{d:Dy}{j k:Int}(h1:j<=k)(h2:k<=d.e):d.num j=d.num k*((2^(k-j).toNat:Nat):Int):=by
 unfold Dy.num;rw[agx h1 h2];split
 .rw [dI,Int.neg_mul]
 .rw [dI]
theorem vk{d:Dy}(h:d.m=0)(k:Int):d.num k=0:=by
 unfold Dy.num;rw[UF h];split<;>rfl
def vO(x y:Int):Int:=if x<y then -1 else if y<x then 1 else 0
theorem Qs(x y:Int){p:Nat}(hp:0<p):vO (x*(p:Int)) (y*(p:Int))=vO x y:=by
 unfold vO;have h:(0:Int)<(p:Int):= ae ;have a:=@Int.mul_lt_mul_right (p:Int) x y h;have b:=@Int.mul_lt_mul_right (p:Int) y x h;simp only[a,b]
def nJ(d:Dy)(k:Int):Prop:=d.m=0\/k<=d.e
theorem nJ.num{d:Dy}{j k:Int}(h:nJ d k)(hj:j<=k):d.num j=d.num k*((2^(k-j).toNat:Nat):Int):=by
 rcases h with h|h
 .rw [vk h,vk h,Int.zero_mul]
 .exact I4 hj h
theorem Ck{a b:Dy}{k:Int}(ha:nJ a k)(hb:nJ b k):jo a b=vO (a.num k) (b.num k):=by
 have e0:jo a b=vO (a.num (min a.e b.e)) (b.num (min a.e b.e)):=rfl;rw[e0];obtain⟨j,h1,h2⟩:∃ j:Int,j<=k/\j<=min a.e b.e:=⟨min k (min a.e b.e),ae,ae⟩
 have a1:=ha.num h1;have b1:=hb.num h1;have a2:=(show nJ a (min a.e b.e)from .inr ae).num h2;have b2:=(show nJ b (min a.e b.e)from .inr ae).num h2;rw[<-Qs _ _ (p:=2^(min a.e b.e-j).toNat) (aY ag),<-a2,<-b2,a1,b1,Qs _ _ (aY ag)]
theorem agv{s:Bool}{m:Nat}{e k:Int}(h:k<=e):(canon s m e).jQ k=m*2^(e-k).toNat:=by
 unfold canon;split
 .rename_i h0;subst h0;simp[Dy.jQ]
 .rename_i h0
  unfold Dy.jQ;simp only;have e1:=D6 h0
  conv=>rhs;rw[<-e1]
  rw[bc,<-aV];congr 2;omega
theorem BK{s:Bool}{m:Nat}{e k:Int}(h:k<=e):(canon s m e).num k=if s then -((m*2^(e-k).toNat:Nat):Int)else((m*2^(e-k).toNat:Nat):Int):=by
 by_cases h0:m=0
 .subst h0
  rw[vk (by simp[canon])];simp
 .have:(canon s m e).neg=s:=by unfold canon;rw[aQ h0]
  unfold Dy.num;rw[agv h,this]
theorem Vi{m:Nat}{e k:Int}(h:k<=e):(canon false m e).num k=((m*2^(e-k).toNat:Nat):Int):=by
 rw[BK h];simp
theorem Nf{z e k:Int}(h:k<=e):(kV z e).num k=z*((2^(e-k).toNat:Nat):Int):=by
 unfold kV;rw[BK h];by_cases hz:z<0
 .simp only[hz,fH,bk]
  rw[dI,<-Int.neg_mul];congr 1;omega
 .simp only[hz,decide_false]
  rw[dI,show(z.natAbs:Int)=z by omega];simp
theorem zo{s:Bool}{m:Nat}{e k:Int}(h:k<=e):nJ (canon s m e) k:=by
 unfold canon;split
 .exact .inl rfl
 .exact .inr (by simp only;omega)
theorem J7{z e k:Int}(h:k<=e):nJ (kV z e) k:=zo h
theorem JF{a b:Dy}{k:Int}(ha:nJ a k)(hb:nJ b k):(iI a b).num k=a.num k+b.num k:=by
 unfold iI;by_cases h1:a.m=0
 .rw [aR h1,vk h1,Int.zero_add]
 .rw [aQ h1]
  by_cases h2:b.m=0
  .rw [aR h2,vk h2,Int.add_zero]
  .rw [aQ h2]
   have ea:k<=a.e:=by rcases ha with h|h;exact absurd h h1;exact h
   have eb:k<=b.e:=by rcases hb with h|h;exact absurd h h2;exact h
   have hm:k<=min a.e b.e:= ae ;rw[Nf hm,Int.add_mul,<-I4 hm ae,<-I4 hm ae]
theorem Gp{a b:Dy}{k:Int}(ha:nJ a k)(hb:nJ b k):nJ (iI a b) k:=by
 unfold iI;by_cases h1:a.m=0
 .rw [aR h1];exact hb
 .rw [aQ h1]
  by_cases h2:b.m=0
  .rw [aR h2];exact ha
  .rw [aQ h2]
   have ea:k<=a.e:=by rcases ha with h|h;exact absurd h h1;exact h
   have eb:k<=b.e:=by rcases hb with h|h;exact absurd h h2;exact h
   exact J7 ae 
theorem AV{a b:Dy}(ha:a.lI)(hb:b.lI):(iI a b).lI:=by
 unfold iI;split
 .exact hb
 .split
  .exact ha
  .exact qP _ _ _
theorem DP{d:Dy}{k:Int}(h:nJ d k):nJ (iF d) k:=h
theorem Fm{d:Dy}(k:Int):(iF d).num k = -(d.num k):=by
 by_cases h:d.m=0
 .rw [vk h,vk (by exact h)];rfl
 .exact Vj d k h
theorem KT{a b:Dy}(ha:a.lI)(hb:b.lI){k:Int}(h1:nJ a k)(h2:nJ b k)(h:a.num k=b.num k):a=b:=by
 have zero:∀ {d:Dy},d.lI->d.m=0->d=jA:=by
  intro d hd h0;obtain⟨s,m,e⟩:=d;rcases hd with⟨x,y,z⟩|hd
  .simp only at x y z;subst x y z;rfl
  .simp only at hd h0;omega
 have nz:∀ {d:Dy},d.num k=0->d.m=0:=by
  intro d hd;by_cases h0:d.m=0
  .exact h0
  .exfalso
   have:=vg h0 k;unfold Dy.num at hd;split at hd<;>omega
 by_cases za:a.m=0
 .have zb:b.m=0:=nz (by rw[<-h];exact vk za k)
  rw[zero ha za,zero hb zb]
 .have zb:b.m≠0:=fun zb=>za (nz (by rw[h];exact vk zb k))
  have oa:a.m%2=1:=by rcases ha with⟨x,_,_⟩|x;exact absurd x za;exact x
  have ob:b.m%2=1:=by rcases hb with⟨x,_,_⟩|x;exact absurd x zb;exact x
  have ea:k<=a.e:=by rcases h1 with h|h;exact absurd h za;exact h
  have eb:k<=b.e:=by rcases h2 with h|h;exact absurd h zb;exact h
  have pa:=vg za k;have pb:=vg zb k;have hm:a.neg=b.neg/\a.jQ k=b.jQ k:=by
   unfold Dy.num at h;cases x:a.neg<;>cases y:b.neg<;>simp[x,y]at h<;>first|exact⟨rfl,ae⟩|(exfalso;omega)
  have hc:=congrArg jO hm.2;unfold Dy.jQ at hc;rw[xU oa,xU ob]at hc;have u7:=hm.2;unfold Dy.jQ at u7;rw[hc]at u7;have se:=am1 (aY ag) u7;obtain⟨s,m,e⟩:=a;obtain⟨t,n,f⟩:=b;simp only at *
  have:e=f:= ae ;rw[hm.1,se,this]
end Go.Proofs.YtdgnpeddgdclhaaGreatDoor.Fp
namespace Go.Proofs.YtdgnpeddgdclhaaGreatDoor
open Go.RowKit Fp
theorem Jz(A:Option Addr)(c:Nat)(M:List Nat)(n:Int)(w:World)(kD:Sl w A c M)(hlen:M.length<=256)(h0:0<=n)(hn:n<=65536)(og:(gV (val M*2^n.toNat)).length<=256):
 Calls Tryz.prog 132 #[.slice A M.length c,.int .i64 n] w (sX w (gV (val M*2^n.toNat))):=by
 obtain⟨k,rfl⟩:=dJ h0;exact akb A c M k w kD hlen ae og
set_option maxHeartbeats 8000000 in
theorem abM(s : Bool)(A : Option Addr)(c : Nat)(L : List Nat)(e : Int)(t : Bool)(B : Option Addr)(d : Nat)(M : List Nat)(f : Int)(w : World)
    (hs : Sl w A c L) (hr : Sl w B d M) (da : oI s L e) (db : oI t M f) (uW : val L≠0) (sN : val M≠0):
    Calls Tryz.prog 80 #[.agg #[.bool s,.slice A L.length c,.int .i64 e],.agg #[.bool t,.slice B M.length d,.int .i64 f]] w fun r w' => r = .returned (.int .i64 (sF ⟨s,val L,e⟩ ⟨t,val M,f⟩))/\iy w w' := by
  obtain⟨kR,kx⟩ := da.exp;obtain⟨LV,LW⟩ := db.exp;have hl := da.len;have hm := db.len;have hE : iy w ((w.alloc (.cells #[.bool s,.slice A L.length c,.int .i64 e] 31)).alloc (.cells #[.bool t,.slice B M.length d,.int .i64 f] 31)) := (iy.alloc _ _).trans (iy.alloc _ _);have kP := ((ji.new w s A L.length c e).alloc (.cells #[.bool t,.slice B M.length d,.int .i64 f] 31)).drew;have kS := (ji.pz (W := w.alloc (.cells #[.bool s,.slice A L.length c,.int .i64 e] 31)) (g := w.heap.size+1) aj t B M.length d f).drew;have ub := (hs.below hE).drew;have yz := (hr.below hE).drew;have HE := Lib.hid (hE.trans (iy.drew _));clear hE;have HTa := Lib.hid (fun w (h : Sl w A c L) => KR s A c L e w h da);have HTb := Lib.hid (fun w (h : Sl w B d M) => KR t B d M f w h db);have Hlt := Lib.hid (fun h => Qu (a := ⟨s,val L,e⟩) (b := ⟨t,val M,f⟩) uW sN h);have Hgt := Lib.hid (fun h => Qt (a := ⟨s,val L,e⟩) (b := ⟨t,val M,f⟩) uW sN h);have Hta := Lib.hid (show Dy.iu ⟨s,val L,e⟩=ib (val L)+e by unfold Dy.iu;rw[aQ uW]);have Htb := Lib.hid (show Dy.iu ⟨t,val M,f⟩=ib (val M)+f by unfold Dy.iu;rw[aQ sN]);obtain⟨k,hk⟩ : ∃ k,min e f=k := ⟨_,rfl⟩
  have hke : k<=e := ae ;have hkf : k<=f := ae ;have oh : -17000<=k := ae ;have L8 := Lib.hid (show k=e\/k=f by omega);have Mn : IntKind.i64.wrap (e-k)=e-k := i64_in _ ae ae;have hwf : IntKind.i64.wrap (f-k)=f-k := i64_in _ ae ae;have HM := Lib.hid (show sF ⟨s,val L,e⟩ ⟨t,val M,f⟩=kg (val L*2^(e-k).toNat) (val M*2^(f-k).toNat)by unfold sF;simp only[hk];rfl);have Hfa := Lib.hid (show ib (val L)+e=ib (val M)+f->ib (val L*2^(e-k).toNat)<=4096 from fun h => by
    rw[qo uW];have := da.bits;have := db.bits;have := L8.out;omega)
  have Hfb := Lib.hid (show ib (val L)+e=ib (val M)+f->ib (val M*2^(f-k).toNat)<=4096 from fun h => by
    rw[qo sN];have := da.bits;have := db.bits;have := L8.out;omega)
  have HXa := Lib.hid (fun w (h : Sl w A c L) og => Jz A c L (e-k) w h hl ae ae og);have HXb := Lib.hid (fun w (h : Sl w B d M) og => Jz B d M (f-k) w h hm ae ae og);generalize Dy.iu ⟨s,val L,e⟩=ta at *
  generalize Dy.iu ⟨t,val M,f⟩=tb at *
  generalize sF ⟨s,val L,e⟩ ⟨t,val M,f⟩=R at *
  generalize val L*2^(e-k).toNat=x at *
  generalize val M*2^(f-k).toNat=y at *
  have HC := Lib.hid (fun A B c d w (h : Sl w A c (gV x)) (k : Sl w B d (gV y)) hx hy => Ff A B c d (gV x) (gV y) w h k hx hy);rw[jD,jD]at HC;clear uW sN da db hl hm;go_enter Tryz.func80,Tryz.ntmps80;go_wp2_with fail;go_region_held3 (fun w' => w'.cell? ⟨w.heap.size,0,none⟩=some (.bool s)/\w'.cell? ⟨w.heap.size,1,none⟩=some (.slice A L.length c)/\w'.cell? ⟨w.heap.size,2,none⟩=some (.int .i64 e)/\w'.cell? ⟨w.heap.size+1,0,none⟩=some (.bool t)/\w'.cell? ⟨w.heap.size+1,1,none⟩=some (.slice B M.length d)/\w'.cell? ⟨w.heap.size+1,2,none⟩=some (.int .i64 f))
    (first
      |exact⟨kP.c0,kP.c1,kP.c2,kS.c0,kS.c1,kS.c2⟩
      |exact⟨(kP.ext iN).c0,(kP.ext iN).c1,(kP.ext iN).c2,(kS.ext iN).c0,(kS.ext iN).c1,(kS.ext iN).c2⟩
      |exact⟨(kP.ext jH).c0,(kP.ext jH).c1,(kP.ext jH).c2,(kS.ext jH).c0,(kS.ext jH).c1,(kS.ext jH).c2⟩
      |exact⟨(kP.ext (iN.trans jH)).c0,(kP.ext (iN.trans jH)).c1,(kP.ext (iN.trans jH)).c2,(kS.ext (iN.trans jH)).c0,(kS.ext (iN.trans jH)).c1,(kS.ext (iN.trans jH)).c2⟩
      |exact⟨(kP.ext (jH.trans iN)).c0,(kP.ext (jH.trans iN)).c1,(kP.ext (jH.trans iN)).c2,(kS.ext (jH.trans iN)).c0,(kS.ext (jH.trans iN)).c1,(kS.ext (jH.trans iN)).c2⟩
      |exact⟨(kP.ext ((iN.trans jH).trans oR)).c0,(kP.ext ((iN.trans jH).trans oR)).c1,(kP.ext ((iN.trans jH).trans oR)).c2,(kS.ext ((iN.trans jH).trans oR)).c0,(kS.ext ((iN.trans jH).trans oR)).c1,(kS.ext ((iN.trans jH).trans oR)).c2⟩
      |exact⟨(kP.ext ((jH.trans iN).trans oR)).c0,(kP.ext ((jH.trans iN).trans oR)).c1,(kP.ext ((jH.trans iN).trans oR)).c2,(kS.ext ((jH.trans iN).trans oR)).c0,(kS.ext ((jH.trans iN).trans oR)).c1,(kS.ext ((jH.trans iN).trans oR)).c2⟩)
    (first
      | (go_at_call_of 130 (Value.agg #[.bool s,.slice A L.length c,.int .i64 e])
         refine(HTa.out _ ?_).mono ?_
         (first|exact ub|exact ub.below jH)
         rintro r wx ⟨rfl,iN⟩)
      | (go_at_call_of 130 (Value.agg #[.bool t,.slice B M.length d,.int .i64 f])
         refine(HTb.out _ ?_).mono ?_
         (first|exact yz|exact yz.below iN)
         rintro r wy ⟨rfl,jH⟩))
  first
    | (have qq := iN.trans jH)
    | (have qq := jH.trans iN)
  have cx1 := (kP.ext qq).drew;have cx2 := (kS.ext qq).drew;have kD := (ub.below qq).drew;have nW := (yz.below qq).drew;have cx1n := (kP.ext qq)
  have cx2n := (kS.ext qq)
  have HF := Lib.hid ((HE.out.trans qq).trans (iy.drew _));have HFr := Lib.hid (HE.out.trans qq);clear iN jH qq;by_cases h1 : ta<tb
  . have hR := Lib.hid (Hlt.out h1)
    go_wp2;go_ret;exact⟨oo hR.out.symm,HFr.out⟩
  . by_cases h2 : tb<ta
    . have hR := Lib.hid (Hgt.out h2)
      go_wp2;go_ret;exact⟨oo hR.out.symm,HFr.out⟩
    . have pO : (ib (val L) : Int)+e=ib (val M)+f := by rw[<-Hta.out,<-Htb.out];omega
      have hfa := MS (k := 128) (Hfa.out pO);have hfb := MS (k := 128) (Hfb.out pO);have HXa2 := Lib.hid (fun w h => HXa.out w h ae);have HXb2 := Lib.hid (fun w h => HXb.out w h ae);have HC2 := Lib.hid (fun A B c d w h k => HC.out A B c d w h k ae ae);have b0 := cx1n.c0;have b1 := cx1n.c1;have b2 := cx1n.c2;have d0 := cx2n.c0;have d1 := cx2n.c1;have d2 := cx2n.c2;clear pO hfa hfb;go_wp2_with fail;go_region_held3 (fun w' => w'.cell? ⟨w.heap.size,0,none⟩=some (.bool s)/\w'.cell? ⟨w.heap.size,1,none⟩=some (.slice A L.length c)/\w'.cell? ⟨w.heap.size,2,none⟩=some (.int .i64 e)/\w'.cell? ⟨w.heap.size+1,0,none⟩=some (.bool t)/\w'.cell? ⟨w.heap.size+1,1,none⟩=some (.slice B M.length d)/\w'.cell? ⟨w.heap.size+1,2,none⟩=some (.int .i64 f))
        (first
          |exact⟨cx1.c0,cx1.c1,cx1.c2,cx2.c0,cx2.c1,cx2.c2⟩
          |exact⟨(cx1.ext iN).c0,(cx1.ext iN).c1,(cx1.ext iN).c2,(cx2.ext iN).c0,(cx2.ext iN).c1,(cx2.ext iN).c2⟩
          |exact⟨(cx1.ext jH).c0,(cx1.ext jH).c1,(cx1.ext jH).c2,(cx2.ext jH).c0,(cx2.ext jH).c1,(cx2.ext jH).c2⟩
          |exact⟨(cx1.ext (iN.trans jH)).c0,(cx1.ext (iN.trans jH)).c1,(cx1.ext (iN.trans jH)).c2,(cx2.ext (iN.trans jH)).c0,(cx2.ext (iN.trans jH)).c1,(cx2.ext (iN.trans jH)).c2⟩
          |exact⟨(cx1.ext (jH.trans iN)).c0,(cx1.ext (jH.trans iN)).c1,(cx1.ext (jH.trans iN)).c2,(cx2.ext (jH.trans iN)).c0,(cx2.ext (jH.trans iN)).c1,(cx2.ext (jH.trans iN)).c2⟩
          |exact⟨(cx1.ext ((iN.trans jH).trans oR)).c0,(cx1.ext ((iN.trans jH).trans oR)).c1,(cx1.ext ((iN.trans jH).trans oR)).c2,(cx2.ext ((iN.trans jH).trans oR)).c0,(cx2.ext ((iN.trans jH).trans oR)).c1,(cx2.ext ((iN.trans jH).trans oR)).c2⟩
          |exact⟨(cx1.ext ((jH.trans iN).trans oR)).c0,(cx1.ext ((jH.trans iN).trans oR)).c1,(cx1.ext ((jH.trans iN).trans oR)).c2,(cx2.ext ((jH.trans iN).trans oR)).c0,(cx2.ext ((jH.trans iN).trans oR)).c1,(cx2.ext ((jH.trans iN).trans oR)).c2⟩)
        (first
          | (go_at_call_of 132 (Value.slice A L.length c)
             refine(HXa2.out _ ?_).mono ?_
             (first|exact kD|exact kD.below jH)
             rintro r wx ⟨Ax,cx,rfl,Th,iN⟩)
          | (go_at_call_of 132 (Value.slice B M.length d)
             refine(HXb2.out _ ?_).mono ?_
             (first|exact nW|exact nW.below iN)
             rintro r wy ⟨Ay,cy,rfl,Ti,jH⟩)
          | (go_at_call 131
             refine(HC2.out _ _ _ _ _ ?_ ?_).mono ?_
             (first|exact Th.below jH|exact Th)
             (first|exact Ti|exact Ti.below iN)
             rintro r wz ⟨rfl,oR⟩))
      all_goals
        go_wp2;go_ret
        (first|exact⟨oo HM.out.symm,HF.out.trans ((iN.trans jH).trans oR)⟩|exact⟨oo HM.out.symm,HF.out.trans ((jH.trans iN).trans oR)⟩)
open Go.RowKit Fp
theorem Xm{d:Dy}:d.iJ=0↔d.m=0:=by
 rcases B3 d with⟨h1,h2⟩|⟨h1,_,h2⟩|⟨h1,_,h2⟩<;>simp[h1,h2]
theorem abK(s : Bool)(A : Option Addr)(c : Nat)(L : List Nat)(e : Int)(t : Bool)(B : Option Addr)(d : Nat)(M : List Nat)(f : Int)(w : World)
    (hs : Sl w A c L) (hr : Sl w B d M) (da : oI s L e) (db : oI t M f):
    Calls Tryz.prog 37 #[.agg #[.bool s,.slice A L.length c,.int .i64 e],.agg #[.bool t,.slice B M.length d,.int .i64 f]] w fun r w' => r = .returned (.int .i64 (jo ⟨s,val L,e⟩ ⟨t,val M,f⟩))/\iy w w' := by
  obtain⟨kR,kx⟩ := da.exp;obtain⟨LV,LW⟩ := db.exp;have HVa := Lib.hid (fun w (h : Sl w A c L) => A6 s A c L e w true h ae ae (by simp[da]));have HVb := Lib.hid (fun w (h : Sl w B d M) => A6 t B d M f w true h ae ae (by simp[db]));have HSa := Lib.hid (fun w (h : Sl w A c L) => KP s A c L e w h da);have HSb := Lib.hid (fun w (h : Sl w B d M) => KP t B d M f w h db);have HK := Lib.hid (fun h1 h2 w (h : Sl w A c L) (k : Sl w B d M) => abM s A c L e t B d M f w h k da db h1 h2);have HP := Lib.hid (Cl ⟨s,val L,e⟩ ⟨t,val M,f⟩);have z1 : Hid (Dy.iJ ⟨s,val L,e⟩=0↔val L=0) := Xm;have z2 : Hid (Dy.iJ ⟨t,val M,f⟩=0↔val M=0) := Xm;have Iy : Dy.iJ ⟨s,val L,e⟩=0\/Dy.iJ ⟨s,val L,e⟩ = -1\/Dy.iJ ⟨s,val L,e⟩=1 := by
    rcases B3 ⟨s,val L,e⟩with⟨_,h⟩|⟨_,_,h⟩|⟨_,_,h⟩<;>simp[h]
  have nV : sF ⟨s,val L,e⟩ ⟨t,val M,f⟩ = -1\/sF ⟨s,val L,e⟩ ⟨t,val M,f⟩=0\/sF ⟨s,val L,e⟩ ⟨t,val M,f⟩=1 := by
    unfold sF kg;split;simp;split<;>simp
  generalize Dy.iJ ⟨s,val L,e⟩=sa at *
  generalize Dy.iJ ⟨t,val M,f⟩=sb at *
  generalize sF ⟨s,val L,e⟩ ⟨t,val M,f⟩=cm at *
  generalize jo ⟨s,val L,e⟩ ⟨t,val M,f⟩=R at *
  have yC : IntKind.i64.wrap (sa*cm)=sa*cm := i64_in _ (by rcases Iy with rfl|rfl|rfl<;>omega) (by rcases Iy with rfl|rfl|rfl<;>omega);have HH := Lib.hid Iy;clear Iy nV da db;go_enter Tryz.func37,Tryz.ntmps37;go_wp2_with fail;refine(HVa.out _ ((hs.alloc _).alloc _)).mono ?_;rintro r w1 ⟨rfl,jc⟩;have kP := ((ji.new w s A L.length c e).alloc (.cells #[.bool t,.slice B M.length d,.int .i64 f] 31)).ext jc;have kS := (ji.pz (W := w.alloc (.cells #[.bool s,.slice A L.length c,.int .i64 e] 31)) (g := w.heap.size+1) aj t B M.length d f).ext jc;have b0 := kP.c0;have b1 := kP.c1;have b2 := kP.c2;have d0 := kS.c0;have d1 := kS.c1;have d2 := kS.c2;have hE := (((iy.alloc w (.cells #[.bool s,.slice A L.length c,.int .i64 e] 31)).trans (iy.alloc _ (.cells #[.bool t,.slice B M.length d,.int .i64 f] 31))).trans jc)
  go_wp2_with fail;refine(HVb.out _ (hr.below hE)).mono ?_;rintro r w2 ⟨rfl,me⟩;have Hq := hE.trans me;have kP := (kP.ext me).drew;have kS := (kS.ext me).drew;have ub := (hs.below Hq).drew;have yz := (hr.below Hq).drew;have HE := Lib.hid (Hq.trans (iy.drew _));clear hE Hq jc me b0 b1 b2 d0 d1 d2;go_wp2_with fail;go_region_held3 (fun w' => w'.cell? ⟨w.heap.size,0,none⟩=some (.bool s)/\w'.cell? ⟨w.heap.size,1,none⟩=some (.slice A L.length c)/\w'.cell? ⟨w.heap.size,2,none⟩=some (.int .i64 e)/\w'.cell? ⟨w.heap.size+1,0,none⟩=some (.bool t)/\w'.cell? ⟨w.heap.size+1,1,none⟩=some (.slice B M.length d)/\w'.cell? ⟨w.heap.size+1,2,none⟩=some (.int .i64 f))
    (first
      |exact⟨kP.c0,kP.c1,kP.c2,kS.c0,kS.c1,kS.c2⟩
      |exact⟨(kP.ext iN).c0,(kP.ext iN).c1,(kP.ext iN).c2,(kS.ext iN).c0,(kS.ext iN).c1,(kS.ext iN).c2⟩
      |exact⟨(kP.ext jH).c0,(kP.ext jH).c1,(kP.ext jH).c2,(kS.ext jH).c0,(kS.ext jH).c1,(kS.ext jH).c2⟩
      |exact⟨(kP.ext (iN.trans jH)).c0,(kP.ext (iN.trans jH)).c1,(kP.ext (iN.trans jH)).c2,(kS.ext (iN.trans jH)).c0,(kS.ext (iN.trans jH)).c1,(kS.ext (iN.trans jH)).c2⟩
      |exact⟨(kP.ext (jH.trans iN)).c0,(kP.ext (jH.trans iN)).c1,(kP.ext (jH.trans iN)).c2,(kS.ext (jH.trans iN)).c0,(kS.ext (jH.trans iN)).c1,(kS.ext (jH.trans iN)).c2⟩)
    (first
      | (go_at_call_of 35 (Value.agg #[.bool s,.slice A L.length c,.int .i64 e])
         refine(HSa.out _ ?_).mono ?_
         (first|exact ub|exact ub.below jH)
         rintro r wx ⟨rfl,iN⟩)
      | (go_at_call_of 35 (Value.agg #[.bool t,.slice B M.length d,.int .i64 f])
         refine(HSb.out _ ?_).mono ?_
         (first|exact yz|exact yz.below iN)
         rintro r wy ⟨rfl,jH⟩))
  first
    | (have qq := iN.trans jH)
    | (have qq := jH.trans iN)
  have cx1 := (kP.ext qq)
  have cx2 := (kS.ext qq)
  have kD := (ub.below qq)
  have nW := (yz.below qq)
  have HFr := Lib.hid (HE.out.trans qq);clear iN jH qq;by_cases h1 : sa<sb
  . have hR := Lib.hid (show R = -1 by rw[HP.out,aR h1])
    go_wp2;go_ret;exact⟨oo hR.out.symm,HFr.out⟩
  . by_cases h2 : sb<sa
    . have hR := Lib.hid (show R=1 by rw[HP.out,aQ h1,aR h2])
      go_wp2;go_ret;exact⟨oo hR.out.symm,HFr.out⟩
    . by_cases h3 : sa=0
      . have hR := Lib.hid (show R=0 by rw[HP.out,aQ h1,aQ h2,aR h3])
        have hz : (sa==0)=true := by simp[h3]
        go_wp2;go_ret;exact⟨oo hR.out.symm,HFr.out⟩
      . have hR := Lib.hid (show R=sa*cm by rw[HP.out,aQ h1,aQ h2,aQ h3])
        have hz : (sa==0)=false := aJ h3;have HK2 := Lib.hid (HK.out (fun h => h3 (z1.out.2 h)) (fun h => h3 (by have := z2.out.2 h;omega)));have b0 := cx1.c0;have b1 := cx1.c1;have b2 := cx1.c2;have d0 := cx2.c0;have d1 := cx2.c1;have d2 := cx2.c2;go_wp2_with fail;refine(HK2.out _ kD nW).mono ?_;rintro r w3 ⟨rfl,pk⟩;go_wp2;go_ret;exact⟨oo hR.out.symm,HFr.out.trans pk⟩
theorem Un:gV 1=[1]:=by rw[yK ag];simp[ni]
open Go.RowKit Fp
theorem Qg{L:List Nat}(h:iC L)(hl:L.length<=256)(s:Bool)(e:Int):(gV (canon s (val L) e).m).length<=100000000:=by
 unfold canon;split
 .simp [ni]
 .refine aX (q9 (k:=256) (bQ (bw _ _) ?_)) ag 
  exact bD (lZ h) (bh ag hl)
theorem Qe{L:List Nat}(h:iC L)(hl:L.length<=256)(s:Bool)(e:Int)(h1:-9000000<=e)(h2:e<=9000000):-10000000<=(canon s (val L) e).e/\(canon s (val L) e).e<=10000000:=by
 unfold canon;split
 .simp
 .rename_i h0
  have:=DZ h h0;simp only;omega
theorem ajf(s:Bool)(A:Option Addr)(c:Nat)(L:List Nat)(e k:Int)(w:World)(hs:Sl w A c L)(hd:oI s L e)(oh:-32768<=k)(sO:k<=32768)(hr:mQ (canon s (val L) (e+k))):
 Calls Tryz.prog 31 #[.agg #[.bool s,.slice A L.length c,.int .i64 e],.int .i64 k] w (sW w (canon s (val L) (e+k)) 0):=by
 obtain⟨kR,kx⟩:=hd.exp;have hlen:=hd.len;have HV:=Lib.hid (fun w (h:Sl w A c L)=>Jp s A c L e w true h ae ae (by simp[hd]));have HX:=Lib.hid (fun w=>ai2 k w true (by simp[oh,sO]));have hw:IntKind.i64.wrap (e+k)=e+k:=i64_in _ ae ae;have HC:=Lib.hid (fun w (h:Sl w A c L)=>FL s A c L (e+k) w h ae ae ae);have jc:=Qg hs.ok hlen s (e+k);obtain⟨me,pk⟩:=Qe hs.ok hlen s (e+k) ae ae;have hv:(canon s (val L) (e+k)).ia:=⟨qP _ _ _,hr⟩
 have HK:=Lib.hid (fun A c w (h:Sl w A c (gV (canon s (val L) (e+k)).m))=>ai0 _ A c w h jc me pk hv);generalize canon s (val L) (e+k)=D at *
 clear hd hr hv jc me pk;go_enter Tryz.func31,Tryz.ntmps31;go_wp2_with fail;refine(HV.out _ ((hs.alloc _).alloc _)).mono ?_;rintro r w1 ⟨rfl,jc⟩;have kP:=((ji.new w s A L.length c e).alloc (.cells #[.bool false,.slice none 0 0,.int .i64 0] 31)).ext jc;have kS:=(ji.pz (W:=w.alloc (.cells #[.bool s,.slice A L.length c,.int .i64 e] 31)) (g:=w.heap.size+1) aj false none 0 0 0).ext jc;have b0:=kP.c0;have b1:=kP.c1;have b2:=kP.c2;have hE:=(((iy.alloc w (.cells #[.bool s,.slice A L.length c,.int .i64 e] 31)).trans (iy.alloc _ (.cells #[.bool false,.slice none 0 0,.int .i64 0] 31))).trans jc)
 have ub:=hs.below hE;have HE:=Lib.hid hE;clear hE jc;go_wp2_with fail;refine(HX.out _).mono ?_;rintro r w2 ⟨rfl,rfl⟩;go_wp2_with fail;refine(HC.out _ ub).mono ?_;rintro r w2 ⟨A1,c1,rfl,sQ,me⟩;go_wp2_with fail;refine(HK.out _ _ _ sQ).mono ?_;rintro r w3 ⟨A2,c2,rfl,kD,pk⟩;have bz:=kS.ext (me.trans pk);have z0:=bz.c0;have z1:=bz.c1;have z2:=bz.c2;have f0:=bz.fr 0;have f1:=bz.fr 1;have f2:=bz.fr 2;go_wp2;exact uP rfl rfl rfl rfl (bz.set _ _ _ _ _) rfl (bz.qw kD _ _ _ _ _) (ji.ql (HE.out.trans (me.trans pk)) ae _ _ _ _ _)
open Go.RowKit Fp
abbrev DV(d:Dy)(A:Option Addr)(c:Nat):Value:=.agg #[.bool d.neg,.slice A (gV d.m).length c,.int .i64 d.e]
theorem EZ{n k:Nat}(h:ib n<=32*k):(gV n).length<=k:=by
 refine q9 (bD (oN _) ?_);rw[nF];exact bh ag h
theorem Fp.Dy.ia.vQ{d:Dy}(h:d.ia):oI d.neg (gV d.m) d.e:=by
 refine⟨vD _,EZ ?_,by rw[jD];exact h⟩;rcases h.range with h0|⟨h1,_⟩
 .rw [h0];exact bL _
 .omega
theorem Fp.Dy.ia.len{d:Dy}(h:d.ia):(gV d.m).length<=256:=h.vQ.2.1
theorem Fp.Dy.ia.exp{d:Dy}(h:d.ia):-16384<=d.e/\d.e<=16384:=h.vQ.exp
theorem Fp.Dy.ia.bits{d:Dy}(h:d.ia):ib d.m<=4096:=by have:=h.vQ.bits;rwa[jD]at this
theorem Fp.Dy.ia.XY{d:Dy}(h:d.ia)(h0:d.m≠0):(ib d.m:Int)+d.e<=16384:=by
 rcases h.range with h|⟨_,_,_,h⟩
 .exact absurd h h0
 .exact h
theorem ji.xY{w:World}{g n c:Nat}{s:Bool}{A:Option Addr}{e:Int}(h:ji w g s A n c e){g':Nat}(kI:g'≠g)(i:Nat)(v:Value):ji (w.setCell ⟨g',i,none⟩ v) g s A n c e:=by
 unfold ji at h ⊢;simp only[World.setCell,eG];rw[aQ kI];exact h
theorem ji.wX{w:World}{g n c:Nat}{s:Bool}{A:Option Addr}{e:Int}(h:ji w g s A n c e){g':Nat}(kI:g'≠g)(v0 v1 v2:Value):
 ji (((w.setCell ⟨g',0,none⟩ v0).setCell ⟨g',1,none⟩ v1).setCell ⟨g',2,none⟩ v2) g s A n c e:=((h.xY kI 0 v0).xY kI 1 v1).xY kI 2 v2
structure uF(d:Dy):Prop where
 len:(gV d.m).length<=256
 lo:-17000<=d.e
 hi:d.e<=17000
theorem Fp.Dy.ia.rq{d:Dy}(h:d.ia):uF d:=⟨h.len,by have:=h.exp;omega,by have:=h.exp;omega⟩
theorem ajb(a b:Dy)(A B:Option Addr)(c d:Nat)(w:World)(h:Sl w A c (gV a.m))(k:Sl w B d (gV b.m))(ha:uF a)(hb:uF b):
 Calls Tryz.prog 154 #[DV a A c,DV b B d] w (tI w (mq a b)):=by
 have:=aja a.neg A c (gV a.m) a.e b.neg B d (gV b.m) b.e w h k (by have:=ha.len;omega) (by have:=hb.len;omega) (by have:=ha.lo;omega) (by have:=ha.hi;omega) (by have:=hb.lo;omega) (by have:=hb.hi;omega);rw[jD,jD]at this;exact this
theorem abL(a b:Dy)(A B:Option Addr)(c d:Nat)(w:World)(h:Sl w A c (gV a.m))(k:Sl w B d (gV b.m))(ha:a.ia)(hb:b.ia):
 Calls Tryz.prog 37 #[DV a A c,DV b B d] w fun e w'=>e = .returned (.int .i64 (jo a b))/\iy w w':=by
 have:=abK a.neg A c (gV a.m) a.e b.neg B d (gV b.m) b.e w h k ha.vQ hb.vQ;rw[jD,jD]at this;exact this
theorem abI(a:Dy)(A:Option Addr)(c:Nat)(w:World)(h:Sl w A c (gV a.m))(ha:a.ia):
 Calls Tryz.prog 295 #[DV a A c] w fun e w'=>e = .returned (.int .i64 (ib a.m))/\iy w w':=by
 have:=abH a.neg A c (gV a.m) a.e w h ha.vQ;rw[jD]at this;exact this
theorem abP(a:Dy)(A:Option Addr)(c:Nat)(w:World)(h:Sl w A c (gV a.m))(ha:a.ia):
 Calls Tryz.prog 35 #[DV a A c] w fun e w'=>e = .returned (.int .i64 a.iJ)/\iy w w':=by
 have:=KP a.neg A c (gV a.m) a.e w h ha.vQ;rw[jD]at this;exact this
theorem G6(a:Dy)(A:Option Addr)(c:Nat)(w:World)(h:Sl w A c (gV a.m))(ha:a.ia):
 Calls Tryz.prog 68 #[DV a A c] w fun e w'=>e = .returned (.bool true)/\iy w w':=
 A6 a.neg A c (gV a.m) a.e w true h (by have:=ha.exp;omega) (by have:=ha.exp;omega) (by simp[ha.vQ])
open Go.RowKit Fp Pu
theorem O6:∀ w w',Tb w->Below w.heap.size w w'->Tb w':=fun _ _ h hb=>h.below hb
theorem mixed:Tryz.prog.follows .mixedOrders=true:= ah 
abbrev gU(f:FuncId)(args:List E)(jV:E):Prop:=PC Tryz.prog Tb f args jV
def gX(L:List Nat):E:=.sl false L.length 1 fun i _=>.v (.int .u32 (L.getD i 0:Int))
def gY(d:Dy):E:=.agg [.v (.bool d.neg),gX (gV d.m),.v (.int .i64 d.e)]
abbrev iP(z:Int):E:=.v (.int .i64 z)
abbrev bP(b:Bool):E:=.v (.bool b)
theorem uw{bs br:Nat->Prop}{w:World}{L:List Nat}{v:Value}(hk:iC L)(h:iG bs br w (gX L) v):∃ A c,v = .slice A L.length c/\Sl w A c L:=by
 cases h with
 |sl _ _ _ _ A c f hc hm h0 hl hr cell kk=>
  refine⟨A,c,rfl,hc,hm,hk,h0,fun i x hx=>?_⟩;obtain⟨hi,z8⟩:=bU.1 hx;obtain⟨b,o,e1,_,iD,lE⟩:=cell i 0 hi ag;have hv:=iG.kK (kk i 0 hi ag);refine⟨b,o,e1,iD,?_⟩;rw[bO,bt,hv]at lE;rw[lE];simp[aW,hx]
theorem xF{B br:Nat->Prop}{w w':World}{A:Option Addr}{c:Nat}{L:List Nat}(hB:∀ b,B b->b<w.heap.size/\oJ w b)(hb:iy w w')(h:Sl w' A c L):iG B br w' (gX L) (.slice A L.length c):=by
 refine .sl false L.length 1 _ A c (fun i _=>.int .u32 (L.getD i 0:Int)) h.cap h.qe h.wG (fun i j _ _=>⟨rfl,fun h=>by cases h⟩) (fun i j _ _=>rfl) (fun i j hi hj=>?_) (fun i j _ _=>.v _)
 .obtain rfl:j=0:= ae 
  obtain⟨b,o,e1,iD,lE⟩:=h.lr hi;have e2:L.getD i 0=L[i]:=by simp[aW,hi]
  refine⟨b,o,e1,fun xg=>?_,iD,by rw[bO,bt,lE,e2]⟩;obtain⟨h1,h2⟩:=hB b xg;exact(h2.De (hb.block b h1)) _ _ lE
theorem G5{bs br:Nat->Prop}{w:World}{d:Dy}{v:Value}(h:iG bs br w (gY d) v):∃ A c,v=DV d A c/\Sl w A c (gV d.m):=by
 obtain⟨vs,rfl,q⟩:=iG.Cc (show iG bs br w (.agg _) v from h);obtain⟨v1,vs,rfl,h1,q⟩:=q.lY;obtain⟨v2,vs,rfl,h2,q⟩:=q.lY;obtain⟨v3,vs,rfl,h3,q⟩:=q.lY;obtain rfl:=q.qh;obtain rfl:=iG.kK h1;obtain rfl:=iG.kK h3;obtain⟨A,c,rfl,hs⟩:=uw (kA _) h2;exact⟨A,c,rfl,hs⟩
theorem Q4{B br:Nat->Prop}{w w':World}{A:Option Addr}{c:Nat}{d:Dy}(hB:∀ b,B b->b<w.heap.size/\oJ w b)(hb:iy w w')(h:Sl w' A c (gV d.m)):iG B br w' (gY d) (DV d A c):=
 kr.agg (.cons (.v _) (.cons (xF hB hb h) (.cons (.v _) (.nil _ _ _))))
section
variable {f:FuncId} {a b:Dy}
theorem xz(hc:∀ (vs:Array Value) (w:World),(callFunc f vs).run Tryz.prog w = .ok (.enter f vs) w){jV:E}{R:World->Ending->World->Prop}
 (H:∀ A c w,Sl w A c (gV a.m)->Tb w->Calls Tryz.prog f #[DV a A c] w (R w)) (hR:∀ (B:Nat->Prop) w e w',(∀ b,B b->b<w.heap.size/\oJ w b)->R w e w'->∃ v,e = .returned v/\Below w.heap.size w w'/\iG B (fun _=>True) w' jV v):gU f [gY a] jV:=by
 refine⟨hc,fun w B vs hK hB hr=>?_⟩;obtain⟨v1,vs,rfl,h1,hr⟩:=hr.lY;obtain rfl:=hr.qh;obtain⟨A,c,rfl,s1⟩:=G5 h1;exact(H A c w s1 hK).mono fun e w' h=>hR B w e w' hB h
theorem Jb(hc:∀ (vs:Array Value) (w:World),(callFunc f vs).run Tryz.prog w = .ok (.enter f vs) w){jV:E}{R:World->Ending->World->Prop}
 (H:∀ A c A' c' w,Sl w A c (gV a.m)->Sl w A' c' (gV b.m)->Tb w->Calls Tryz.prog f #[DV a A c,DV b A' c'] w (R w)) (hR:∀ (B:Nat->Prop) w e w',(∀ b,B b->b<w.heap.size/\oJ w b)->R w e w'->∃ v,e = .returned v/\Below w.heap.size w w'/\iG B (fun _=>True) w' jV v):gU f [gY a,gY b] jV:=by
 refine⟨hc,fun w B vs hK hB hr=>?_⟩;obtain⟨v1,vs,rfl,h1,hr⟩:=hr.lY;obtain⟨v2,vs,rfl,h2,hr⟩:=hr.lY;obtain rfl:=hr.qh;obtain⟨A,c,rfl,s1⟩:=G5 h1;obtain⟨A',c',rfl,s2⟩:=G5 h2;exact(H A c A' c' w s1 s2 hK).mono fun e w' h=>hR B w e w' hB h
end
theorem rv{x:Value}:∀ (B:Nat->Prop) (w:World) (e:Ending) (w':World),(∀ b,B b->b<w.heap.size/\oJ w b)->(e = .returned x/\iy w w')->∃ v,e = .returned v/\Below w.heap.size w w'/\iG B (fun _=>True) w' (.v x) v:=
 fun _ _ _ _ _ h=>⟨x,h.1,h.2,.v x⟩
theorem rd{d:Dy}:∀ (B:Nat->Prop) (w:World) (e:Ending) (w':World),(∀ b,B b->b<w.heap.size/\oJ w b)->tI w d e w'->∃ v,e = .returned v/\Below w.heap.size w w'/\iG B (fun _=>True) w' (gY d) v:=
 fun _ _ _ _ hB ⟨_,_,h1,h2,h3⟩=>⟨_,h1,h3,Q4 hB h3 h2⟩
theorem FK{d:Dy}{n:Int}:∀ (B:Nat->Prop) (w:World) (e:Ending) (w':World),(∀ b,B b->b<w.heap.size/\oJ w b)->sW w d n e w'->∃ v,e = .returned v/\Below w.heap.size w w'/\iG B (fun _=>True) w' (.iw [gY d,iP n]) v:=
 fun _ _ _ _ hB ⟨_,_,h1,h2,h3⟩=>⟨_,h1,h3,kr.iw (.cons (Q4 hB h3 h2) (.cons (.v _) (.nil _ _ _)))⟩
theorem vE:E.le (.agg [bP false,.v (.slice none 0 0),iP 0]) (gY jA):=by
 have:gY jA = .agg [bP false,.sl false 0 1 fun i _=>.v (.int .u32 (((gV 0).getD i 0:Nat):Int)),iP 0]:=by
  show E.agg [bP false,gX (gV 0),iP 0]=_;unfold gX;rw[ni];rfl
 rw[this];exact .agg (.cons (.refl _) (.cons (.nil _ _ _) (.cons (.refl _) .nil)))
theorem nT(a b:Dy)(ha:a.ia)(hb:b.ia):gU 37 [gY a,gY b] (iP (jo a b)):=Jb Tryz.call37 (fun A c A' c' w h k _=>abL a b A A' c c' w h k ha hb) rv
theorem nU(a:Dy)(ha:a.ia):gU 35 [gY a] (iP a.iJ):=xz Tryz.call35 (fun A c w h _=>abP a A c w h ha) rv
theorem qp(a:Dy)(ha:a.ia):gU 68 [gY a] (bP true):=xz Tryz.call68 (fun A c w h _=>G6 a A c w h ha) rv
theorem G3(a:Dy)(ha:a.ia):gU 295 [gY a] (iP (ib a.m)):=xz Tryz.call295 (fun A c w h _=>abI a A c w h ha) rv
theorem ajc(a b:Dy)(ha:uF a)(hb:uF b):gU 154 [gY a,gY b] (gY (mq a b)):=Jb Tryz.call154 (fun A c A' c' w h k _=>ajb a b A A' c c' w h k ha hb) rd
open Go.RowKit Fp Pu
def TT:List TI:=[
 ⟨3,.int .i64,⟨.int .i64, "int", 1,8,false,8,8,some (.int .i64 0),true,#[]⟩⟩,
 ⟨4,.bool,⟨.bool, "bool", 1,1,false,1,1,some (.bool false),true,#[]⟩⟩,
 ⟨5,.int .u8,⟨.int .u8, "uint8", 1,1,false,1,1,some (.int .u8 0),true,#[]⟩⟩,
 ⟨9,.string,⟨.string, "string", 1,16,true,8,8,some (.string ⟨#[]⟩),true,#[]⟩⟩,
 ⟨22,.slice 99,⟨.slice 99, "[]api.Op", 1,24,true,8,8,some (.slice none 0 0),false,#[]⟩⟩,
 ⟨23,.slice 3,⟨.slice 3, "[]int", 1,24,true,8,8,some (.slice none 0 0),false,#[]⟩⟩,
 ⟨25,.struct #[⟨"Ins", 3,0,false, "", "", 0⟩,⟨"Ops", 22,1,false, "", "", 8⟩,⟨"Outs", 23,2,false, "", "", 32⟩],⟨.named "flowpipe/api.Tape" 24, "api.Tape", 3,56,true,8,8,some (.agg #[.int .i64 0,.slice none 0 0,.slice none 0 0]),false,#[]⟩⟩,
 ⟨26,.slice 41,⟨.slice 41, "[]api.Interval", 1,24,true,8,8,some (.slice none 0 0),false,#[]⟩⟩,
 ⟨28,.struct #[⟨"Tape", 25,0,false, "", "", 0⟩,⟨"States", 3,3,false, "", "", 56⟩,⟨"Params", 26,4,false, "", "", 64⟩],⟨.named "flowpipe/api.System" 27, "api.System", 5,88,true,8,8,some (.agg #[.int .i64 0,.slice none 0 0,.slice none 0 0,.int .i64 0,.slice none 0 0]),false,#[]⟩⟩,
 ⟨29,.slice 79,⟨.slice 79, "[]uint32", 1,24,true,8,8,some (.slice none 0 0),false,#[]⟩⟩,
 ⟨31,.struct #[⟨"Neg", 4,0,false, "", "", 0⟩,⟨"M", 29,1,false, "", "", 8⟩,⟨"E", 3,2,false, "", "", 32⟩],⟨.named "flowpipe/api.Dyadic" 30, "api.Dyadic", 3,40,true,8,8,some (.agg #[.bool false,.slice none 0 0,.int .i64 0]),false,#[]⟩⟩,
 ⟨34,.func #[26] #[4] false,⟨.func #[26] #[4] false, "func([]api.Interval) bool", 1,8,true,8,8,some (.nilFunc),false,#[]⟩⟩,
 ⟨41,.struct #[⟨"Lo", 31,0,false, "", "", 0⟩,⟨"Hi", 31,3,false, "", "", 40⟩,⟨"All", 4,6,false, "", "", 80⟩],⟨.named "flowpipe/api.Interval" 40, "api.Interval", 7,88,true,8,8,some (.agg #[.bool false,.slice none 0 0,.int .i64 0,.bool false,.slice none 0 0,.int .i64 0,.bool false]),false,#[]⟩⟩,
 ⟨42,.func #[41] #[4] false,⟨.func #[41] #[4] false, "func(api.Interval) bool", 1,8,true,8,8,some (.nilFunc),false,#[]⟩⟩,
 ⟨45,.int .i64,⟨.named "flowpipe/api.Errno" 3, "api.Errno", 1,8,false,8,8,some (.int .i64 0),true,#[]⟩⟩,
 ⟨49,.slice 5,⟨.slice 5, "[]uint8", 1,24,true,8,8,some (.slice none 0 0),false,#[]⟩⟩,
 ⟨62,.func #[31,3] #[31,45] false,⟨.func #[31,3] #[31,45] false, "func(api.Dyadic, int) (api.Dyadic, api.Errno)", 1,8,true,8,8,some (.nilFunc),false,#[]⟩⟩,
 ⟨67,.func #[41,41,3] #[41] false,⟨.func #[41,41,3] #[41] false, "func(api.Interval, api.Interval, int) api.Interval", 1,8,true,8,8,some (.nilFunc),false,#[]⟩⟩,
 ⟨68,.func #[3] #[4] false,⟨.func #[3] #[4] false, "func(int) bool", 1,8,true,8,8,some (.nilFunc),false,#[]⟩⟩,
 ⟨71,.func #[41,41] #[4] false,⟨.func #[41,41] #[4] false, "func(api.Interval, api.Interval) bool", 1,8,true,8,8,some (.nilFunc),false,#[]⟩⟩,
 ⟨79,.int .u32,⟨.int .u32, "uint32", 1,4,false,4,4,some (.int .u32 0),true,#[]⟩⟩,
 ⟨87,.slice 26,⟨.slice 26, "[][]api.Interval", 1,24,true,8,8,some (.slice none 0 0),false,#[]⟩⟩,
 ⟨97,.struct #[⟨"N", 3,0,false, "", "", 0⟩,⟨"D", 3,1,false, "", "", 8⟩],⟨.named "flowpipe/api.Ratio" 96, "api.Ratio", 2,16,false,8,8,some (.agg #[.int .i64 0,.int .i64 0]),true,#[]⟩⟩,
 ⟨99,.struct #[⟨"Kind", 3,0,false, "", "", 0⟩,⟨"A", 3,1,false, "", "", 8⟩,⟨"B", 3,2,false, "", "", 16⟩,⟨"N", 3,3,false, "", "", 24⟩,⟨"C", 97,4,false, "", "", 32⟩],⟨.named "flowpipe/api.Op" 98, "api.Op", 6,48,false,8,8,some (.agg #[.int .i64 0,.int .i64 0,.int .i64 0,.int .i64 0,.int .i64 0,.int .i64 0]),true,#[]⟩⟩,
 ⟨108,.slice 110,⟨.slice 110, "[][2]api.Dyadic", 1,24,true,8,8,some (.slice none 0 0),false,#[]⟩⟩,
 ⟨110,.array 2 31,⟨.array 2 31, "[2]api.Dyadic", 6,80,true,8,8,some (.agg #[.bool false,.slice none 0 0,.int .i64 0,.bool false,.slice none 0 0,.int .i64 0]),false,#[]⟩⟩,
 ⟨123,.int .u64,⟨.int .u64, "uint64", 1,8,false,8,8,some (.int .u64 0),true,#[]⟩⟩,
 ⟨124,.int .u64,⟨.int .u64, "uint", 1,8,false,8,8,some (.int .u64 0),true,#[]⟩⟩,
 ⟨129,.func #[31,31,3] #[31,45] false,⟨.named "flowpipe/interval.rounded" 91, "interval.rounded", 1,8,true,8,8,some (.nilFunc),false,#[]⟩⟩,
 ⟨130,.array 4 110,⟨.array 4 110, "[4][2]api.Dyadic", 24,320,true,8,8,some (.agg #[.bool false,.slice none 0 0,.int .i64 0,.bool false,.slice none 0 0,.int .i64 0,.bool false,.slice none 0 0,.int .i64 0,.bool false,.slice none 0 0,.int .i64 0,.bool false,.slice none 0 0,.int .i64 0,.bool false,.slice none 0 0,.int .i64 0,.bool false,.slice none 0 0,.int .i64 0,.bool false,.slice none 0 0,.int .i64 0]),false,#[]⟩⟩,
 ⟨148,.struct #[⟨"m", 29,0,false, "", "flowpipe/round", 0⟩,⟨"e", 3,1,false, "", "flowpipe/round", 24⟩,⟨"more", 4,2,false, "", "flowpipe/round", 32⟩],⟨.named "flowpipe/round.exact" 147, "round.exact", 3,40,true,8,8,some (.agg #[.slice none 0 0,.int .i64 0,.bool false]),false,#[]⟩⟩,
 ⟨161,.slice 29,⟨.slice 29, "[][]uint32", 1,24,true,8,8,some (.slice none 0 0),false,#[]⟩⟩,
 ⟨163,.func #[29] #[4] false,⟨.func #[29] #[4] false, "func([]uint32) bool", 1,8,true,8,8,some (.nilFunc),false,#[]⟩⟩,
 ⟨168,.struct #[⟨"o", 99,0,false, "", "flowpipe/gradient", 0⟩,⟨"v", 41,6,false, "", "flowpipe/gradient", 48⟩,⟨"a", 41,13,false, "", "flowpipe/gradient", 136⟩,⟨"b", 41,20,false, "", "flowpipe/gradient", 224⟩,⟨"da", 41,27,false, "", "flowpipe/gradient", 312⟩,⟨"db", 41,34,false, "", "flowpipe/gradient", 400⟩,⟨"p", 3,41,false, "", "flowpipe/gradient", 488⟩],⟨.named "flowpipe/gradient.node" 167, "gradient.node", 42,496,true,8,8,some (.agg #[.int .i64 0,.int .i64 0,.int .i64 0,.int .i64 0,.int .i64 0,.int .i64 0,.bool false,.slice none 0 0,.int .i64 0,.bool false,.slice none 0 0,.int .i64 0,.bool false,.bool false,.slice none 0 0,.int .i64 0,.bool false,.slice none 0 0,.int .i64 0,.bool false,.bool false,.slice none 0 0,.int .i64 0,.bool false,.slice none 0 0,.int .i64 0,.bool false,.bool false,.slice none 0 0,.int .i64 0,.bool false,.slice none 0 0,.int .i64 0,.bool false,.bool false,.slice none 0 0,.int .i64 0,.bool false,.slice none 0 0,.int .i64 0,.bool false,.int .i64 0]),false,#[]⟩⟩,
 ⟨170,.slice 31,⟨.slice 31, "[]api.Dyadic", 1,24,true,8,8,some (.slice none 0 0),false,#[]⟩⟩,
 ⟨201,.struct #[⟨"p", 3,0,false, "", "flowpipe/exponent", 0⟩],⟨.named "flowpipe/exponent.work" 200, "exponent.work", 1,8,false,8,8,some (.agg #[.int .i64 0]),true,#[⟨"flowpipe/exponent.add", 136,#[],some (308,false)⟩,⟨"flowpipe/exponent.div", 136,#[],some (307,false)⟩,⟨"flowpipe/exponent.exp", 177,#[],some (320,false)⟩,⟨"flowpipe/exponent.halved", 179,#[],some (306,false)⟩,⟨"flowpipe/exponent.log", 177,#[],some (309,false)⟩,⟨"flowpipe/exponent.mul", 136,#[],some (310,false)⟩,⟨"flowpipe/exponent.small", 42,#[],some (322,false)⟩]⟩⟩,
 ⟨209,.struct #[⟨"neg", 4,0,false, "", "flowpipe/circle", 0⟩,⟨"m", 29,1,false, "", "flowpipe/circle", 8⟩],⟨.named "flowpipe/circle.fix" 208, "circle.fix", 2,32,true,8,8,some (.agg #[.bool false,.slice none 0 0]),false,#[⟨"flowpipe/circle.add", 220,#[],some (335,false)⟩,⟨"flowpipe/circle.by", 216,#[],some (342,false)⟩,⟨"flowpipe/circle.minus", 214,#[],some (326,false)⟩,⟨"flowpipe/circle.times", 217,#[],some (332,false)⟩,⟨"flowpipe/circle.zero", 32,#[],some (336,false)⟩]⟩⟩,
 ⟨220,.func #[209] #[209] false,⟨.func #[209] #[209] false, "func(circle.fix) circle.fix", 1,8,true,8,8,some (.nilFunc),false,#[]⟩⟩]
theorem J6:mE Tryz.prog TT:=Gn.ok ⟨⟨Tryz.underlying3,ah⟩,⟨Tryz.underlying4,ah⟩,⟨Tryz.underlying5,ah⟩,⟨Tryz.underlying9,ah⟩,⟨Tryz.underlying22,ah⟩,⟨Tryz.underlying23,ah⟩,⟨Tryz.underlying25,ah⟩,⟨Tryz.underlying26,ah⟩,⟨Tryz.underlying28,ah⟩,⟨Tryz.underlying29,ah⟩,⟨Tryz.underlying31,ah⟩,⟨Tryz.underlying34,ah⟩,⟨Tryz.underlying41,ah⟩,⟨Tryz.underlying42,ah⟩,⟨Tryz.underlying45,ah⟩,⟨Tryz.underlying49,ah⟩,⟨Tryz.underlying62,ah⟩,⟨Tryz.underlying67,ah⟩,⟨Tryz.underlying68,ah⟩,⟨Tryz.underlying71,ah⟩,⟨Tryz.underlying79,ah⟩,⟨Tryz.underlying87,ah⟩,⟨Tryz.underlying97,ah⟩,⟨Tryz.underlying99,ah⟩,⟨Tryz.underlying108,ah⟩,⟨Tryz.underlying110,ah⟩,⟨Tryz.underlying123,ah⟩,⟨Tryz.underlying124,ah⟩,⟨Tryz.underlying129,ah⟩,⟨Tryz.underlying130,ah⟩,⟨Tryz.underlying148,ah⟩,⟨Tryz.underlying161,ah⟩,⟨Tryz.underlying163,ah⟩,⟨Tryz.underlying168,ah⟩,⟨Tryz.underlying170,ah⟩,⟨Tryz.underlying201,ah⟩,⟨Tryz.underlying209,ah⟩,⟨Tryz.underlying220,ah⟩,trivial⟩
end Go.Proofs.YtdgnpeddgdclhaaGreatDoor
namespace Go.Proofs.YtdgnpeddgdclhaaGreatDoor.Pu
open Go.RowKit
def E.mc:E->Nat->Nat->E
 | .sl _ _ _ el,i,j=>el i j
 |_,_,_=>.any
section
variable {P:Program} {K:World->Prop}
theorem Sp.pre{c:Code}{σ τ:PS}{Q:Ex->PS->Prop}(h:PS.le σ τ)(k:Sp P K c τ Q):Sp P K c σ Q:=fun w0 B a w L g r=>
 let⟨L',r'⟩:=h w0 B a w L (fun b hb=>(g.hB b hb).1) r;k w0 B a w L' g r'
theorem Sp.post{c:Code}{σ:PS}{Q Q':Ex->PS->Prop}(h:Sp P K c σ Q)(k:∀ e τ,Q e τ->∃ τ',PS.le τ τ'/\Q' e τ'):Sp P K c σ Q':=fun w0 B a w L g r=>
 Code.wp_mono (fun _ _ _ ⟨ex,τ,L',h1,h2,h3⟩=>let⟨τ',q1,q2⟩:=k ex τ h2;let⟨L2,r2⟩:=q1 w0 B _ _ L' (fun b hb=>(g.hB b hb).1) h3;⟨ex,τ',L2,h1,q2,r2⟩) (h w0 B a w L g r)
theorem Sp.fam{α:Type}(f:α->PS)(p:α->Prop)(m:α->Nat){b:Code}{e:Ex}{τ:PS}
 (step:∀ x,p x->Sp P K b (f x) (fun e' υ=>(e' = .normal/\∃ y,p y/\m y<m x/\υ=f y)\/(e' ≠ .normal/\e'=e/\υ=τ))) {σ:PS} (x:α) (hx:p x) (h0:PS.le σ (f x)):
 Sp P K (.loop b) σ (fun e' υ=>e'=e/\υ=τ):=by
 refine Sp.pre h0 ?_;refine Sp.loop (Q:=fun e' υ=>e'=e/\υ=τ) (fun n σ=>∃ x,p x/\m x=n/\σ=f x) (fun n σ ⟨x,h1,h2,h3⟩=>?_) (m x) (f x) ⟨x,hx,rfl,rfl⟩;subst h3 h2;exact(step x h1).mono fun e' υ h=>h.imp (fun⟨q1,y,q2,q3,q4⟩=>⟨q1,m y,q3,y,q2,rfl,q4⟩) id
theorem Sp.ac1{α:Type}{f:α->PS}{p:α->Prop}{m:α->Nat}{b:Code}{e:Ex}{τ υ:PS}{x:α}(y:α)(h:Sp P K b (f x) (fun e' υ'=>e' = .normal/\υ'=υ))(hy:p y)(hm:m y<m x)(hl:PS.le υ (f y)):
 Sp P K b (f x) (fun e' υ=>(e' = .normal/\∃ y,p y/\m y<m x/\υ=f y)\/(e' ≠ .normal/\e'=e/\υ=τ)):=
 h.post fun _ _ ⟨h1,h2⟩=>⟨f y,h2▸hl,.inl ⟨h1,y,hy,hm,rfl⟩⟩
theorem Sp.ac2{α:Type}{f:α->PS}{p:α->Prop}{m:α->Nat}{b:Code}{e:Ex}{τ υ:PS}{x:α}(h:Sp P K b (f x) (fun e' υ'=>e'=e/\υ'=υ))(he:e ≠ .normal)(hl:PS.le υ τ):
 Sp P K b (f x) (fun e' υ=>(e' = .normal/\∃ y,p y/\m y<m x/\υ=f y)\/(e' ≠ .normal/\e'=e/\υ=τ)):=
 h.post fun _ _ ⟨h1,h2⟩=>⟨τ,h2▸hl,.inr ⟨h1▸he,h1,rfl⟩⟩
end
def Ak(k:Nat):Code->Option Code
 | .loop b=>if Nat.beq (Ef b) k then some b else Ak k b
 | .seq a b=>match Ak k a with
  |some c=>some c
  |none=>Ak k b
 | .cond _ a b=>match Ak k a with
  |some c=>some c
  |none=>Ak k b
 | .block _ b=>Ak k b
 | .scope b=>Ak k b
 |_=>none
def aaa(k:Nat)(fn:Func):Code:=((fn.body.bind (Ak k)).getD .skip)
theorem Bx.le.iU{a b:Bx}(h:a=b):Bx.le a b:=h▸Bx.le.refl a
theorem Bx.le.cells{T:TypeId}{l m:List E}(hn:(l.all E.nk=true->m.all E.nk=true))(h:tH l m):Bx.le (.cells T l) (.cells T m):=⟨hn,fun _ _ _ _ _ ⟨b,vs,h1,h2,h3,h4,h5⟩=>⟨b,vs,h1,h2,h3,h.Jq h4,h5⟩⟩
theorem Bx.le.row{nl:Bool}{T:TypeId}{n n' sz:Nat}{el el':Nat->Nat->E}(hn:n=n')(h:∀ i j,i<n->j<sz->E.le (el i j) (el' i j)/\(el' i j).nr 2=true):Bx.le (.row nl T n sz el) (.row nl T n' sz el'):=
 ⟨id,fun _ _ _ _ _ ⟨f,h1,h2,h3⟩=>by subst hn;exact⟨f,h1,h2,fun i j hi hj=>⟨(h i j hi hj).1 _ _ _ _ (h3 i j hi hj).1,(h i j hi hj).2⟩⟩⟩
theorem PS.le.afS{σ τ:PS}(hn:σ.n=τ.n)(kj:(τ.b.all fun x=>x.2.nl)=true)(hr:FM τ=true)(ht:wQ σ τ.t)(hb:vF σ τ.b):PS.le σ τ:=fun w0 B a w L _ r=>by
 let L':Lk:=⟨fun id=>L.om id/\(τ.bo id).isSome=true,fun id x=>L.own id x/\(τ.bo id).isSome=true,L.val,L.jv⟩
 have iD:sV L w L' w:=⟨aU _,fun x _ ⟨id,h,_⟩=>⟨id,h⟩,fun _ _ _=>rfl⟩
 refine⟨L',r.hd,by rw[<-hn];exact r.hs,fun t=>?_,fun id b h=>?_,fun id=>?_,fun id x h=>⟨r.hn id x h.1,h.2⟩,fun id x h=>r.hw id x h.1,fun id id' x h k=>r.hi id id' x h.1 k.1,r.he,fun h id b k=>?_⟩
 .have hg:τ.get t=((look τ.t t)).getD (.e .any):=rfl
  cases hl:look τ.t t with
  |none=>rw[hg,hl];exact .any _
  |some p=>
   rw[hg,hl];have:=ht.get hl _ _ _ _ _ (r.ht t);refine nK.move iD this fun id hid u6=>⟨⟨u6,?_⟩,rfl,fun _=>rfl⟩
   have q:=bH.1 hr _ (MW hl);exact bH.1 q id hid
 .obtain ⟨b',h1,h2⟩:=hb.get h
  have hs:(τ.bo id).isSome=true:=by rw[h];rfl
  exact(h2.2 _ _ _ _ _ (r.hb id b' h1)).later iD rfl (fun x=>⟨fun q=>q.1,fun q=>⟨q,hs⟩⟩) (fun _=>rfl) fun _ _=>rfl
 .show L.om id/\(τ.bo id).isSome=true↔(τ.bo id).isSome=true
  refine⟨fun h=>h.2,fun h=>⟨(r.hv id).2 ?_,h⟩⟩;obtain⟨b,j9⟩:=fX.1 h;obtain⟨b',h1,_⟩:=hb.get j9;rw[h1];rfl
 .exact bH.1 kj _ (MW k)
def PV.wY(id:Nat)(e:E)(p:PV):PV:=match p with
 | .own i=>if Nat.beq i id then .e e else .own i
 |p=>if p.qM.any (Nat.beq id)then .e .any else p
def PS.wY(σ:PS)(id:Nat)(e:E):PS:={ σ with t:=σ.t.map fun x=>(x.1,x.2.wY id e),b:=σ.b.filter fun x=>!Nat.beq x.1 id }
def Bx.as:Bx->Option E
 | .row nl _ n sz el=>some (.sl nl n sz el)
 | .qj nl _ _ n sz len el none=>some (.sl true n 1 fun k _=>.sl nl (len k) sz (el k))
 |_=>none
theorem PS.le.freeze{σ:PS}(id:Nat){b:Bx}{e:E}(j9:σ.bo id=some b)(he:b.as=some e):PS.le σ (σ.wY id e):=fun w0 B a w L hB r=>by
 let L':Lk:=⟨fun i=>L.om i/\i≠id,fun i x=>L.own i x/\i≠id,L.val,L.jv⟩
 have iD:sV L w L' w:=⟨aU _,fun x _ ⟨i,h,_⟩=>⟨i,h⟩,fun _ _ _=>rfl⟩
 have wa:∀ i,(σ.wY id e).bo i=if i=id then none else σ.bo i:=by
  intro i;unfold PS.bo PS.wY;by_cases h:i=id
  .subst h;simp only[bk];exact Uu _ _
  .rw [aQ h];exact E4 _ _ _ (fun e=>h e.symm)
 have xg:∀ x,L.own id x->¬jC B L' x:=by
  rintro x hx (h|⟨i,h1,h2⟩)
  .have:=hB x h;have:=(r.hw id x hx).1;omega
  .exact h2 (r.hi i id x h1 hx)
 have own:∀ (v:Value) (T:TypeId) (n sz:Nat) (f:Nat->Nat->Value) (nl:Bool) (el:Nat->Nat->E),qC w v T n sz f nl->(∀ x,v.ownBlock=some x->L.own id x) ->
  (∀ i j,i<n->j<sz->iG (jC B L) (ko L) w (el i j) (f i j)/\(el i j).nr 2=true)->iG (jC B L') (ko L') w (.sl nl n sz el) v:=by
  intro v T n sz f nl el h1 h2 h3;rcases h1 with⟨rfl,rfl⟩|⟨b,c,cur,rfl,hg,pZ,nV,nL,lE,kj⟩
  .exact .sl nl 0 sz el none 0 f (aU _) ag (fun _=>rfl) (fun i j hi=>absurd hi (bj i)) (fun i j hi=>absurd hi (bj i)) (fun i j hi=>absurd hi (bj i)) (fun i j hi=>absurd hi (bj i))
  .have rn:=h2 b rfl
   refine .sl nl n sz el _ c f pZ (by unfold maxLen at nV;omega) (fun h=>by cases h) (fun i j hi hj=>⟨(lE i j hi hj).2,fun hn=>kj hn _ (dz (lE i j hi hj).1)⟩) (fun i j hi hj=>(h3 i j hi hj).2)
    (fun i j hi hj=>⟨b,0,rfl,xg b rn,(r.hw id b rn).2,?_⟩) (fun i j hi hj=>iD.lk (h3 i j hi hj).1)
   rw[bW];simp only[World.cell?,hg];simpa using(lE i j hi hj).1
 have hold:∀ v,v=L.val id->iG (jC B L') (ko L') w e v:=by
  rintro v rfl;have Hy:=r.hb id b j9;cases b with
  |cells T l=>cases he
  |row nl T n sz el=>
   cases he;obtain⟨f,h1,h2,h3⟩:=Hy;exact own _ T n sz f nl el h1 (fun x hx=>(h2 x).2 hx) h3
  |qj nl T1 T0 n sz len el pend=>
   cases pend with
   |some k=>cases he
   |none=>
    cases he;obtain⟨b,c,cur,f,h1,h2,h3,h4,h5,h6,h7,h8,h9,vV,wZ⟩:=Hy;have rn:L.own id b:=(h9 b).2 (.inl rfl);rw[h1];refine .sl true n 1 _ _ c (fun k _=>L.jv id k) h3 (by unfold maxLen at h4;omega) (fun h=>by cases h) (fun k j hk hj=>?_) (fun k j hk hj=>rfl)
     (fun k j hk hj=>⟨b,0,rfl,xg b rn,(r.hw id b rn).2,?_⟩) (fun k j hk hj=>own _ T0 (len k) sz (f k) nl (el k) (h8 k hk).1 (fun x hx=>(h9 x).2 (.inr ⟨k,hk,hx⟩)) (h8 k hk).2)
    .obtain ⟨q1,q2⟩:=h7 _ (dz (h6 k hk aj))
     exact⟨q1,fun _=>q2⟩
    .rw [bW,bO]
     obtain rfl:j=0:= ae ;simp only[World.cell?,h2];simpa using h6 k hk aj 
 refine⟨L',r.hd,r.hs,fun t=>?_,fun i b' h=>?_,fun i=>?_,fun i x h=>⟨r.hn i x h.1,h.2⟩,fun i x h=>r.hw i x h.1,fun i i' x h k=>r.hi i i' x h.1 k.1,r.he,fun h i b' k=>?_⟩
 .have hg:(σ.wY id e).get t=(σ.get t).wY id e:=by
   unfold PS.get PS.wY;rw[Uv];cases look σ.t t<;>rfl
  rw[hg];have k:=r.ht t;generalize σ.get t=p at k;have move:∀ (p:PV) (v:Value),nK (jC B L) (ko L) L w p v->(p.qM.any (Nat.beq id))=false->nK (jC B L') (ko L') L' w p v:=by
   intro p v k hp;refine nK.move iD k fun i hi u6=>⟨⟨u6,?_⟩,rfl,fun _=>rfl⟩
   rintro rfl;have:=dX.1 hp i hi;simp at this
  have gen:∀ (p:PV) (v:Value),nK (jC B L) (ko L) L w p v->nK (jC B L') (ko L') L' w (if p.qM.any (Nat.beq id)then .e .any else p) v:=by
   intro p v k;cases hp:p.qM.any (Nat.beq id)with
   |true=>exact .any _
   |false=>exact move p v k hp
  cases p with
  |own i=>
   simp only[PV.wY];by_cases hi:i=id
   .subst hi
    rw[du,aR rfl];exact hold _ k.2
   .rw [dv hi,aQ ag]
    exact⟨⟨k.1,hi⟩,k.2⟩
  |_=>exact gen _ _ k
 .rw [wa]at h
  split at h
  .cases h
  .rename_i hi
   exact(r.hb i b' h).later iD rfl (fun x=>⟨fun q=>q.1,fun q=>⟨q,hi⟩⟩) (fun _=>rfl) fun _ _=>rfl
 .rw [wa]
  show L.om i/\i≠id↔_;by_cases hi:i=id
  .subst hi;simp
  .simp only[hi,cV,er,and_true,a6]
   exact r.hv i
 .rw [wa]at k
  split at k
  .cases k
  .exact r.hl h i b' k
def PS.Cb(σ:PS)(t id:Nat)(b:Bx):PS:={ σ with t:=(t,.own id)::σ.t.filter (fun x=>!Nat.beq x.1 t),b:=(id,b)::σ.b }
theorem PS.le.YT{σ:PS}(t id:Nat){nl:Bool}{T:TypeId}{sz:Nat}{el:Nat->Nat->E}(j9:σ.bo id=none)(hg:σ.get t = .e (.v (.slice none 0 0)))(kj:σ.nl=true->nl=true):PS.le σ (σ.Cb t id (.row nl T 0 sz el)):=fun w0 B a w L hB r=>by
 have u5:¬L.om id:=fun h=>by have:=(r.hv id).1 h;rw[j9]at this;cases this
 let L':Lk:=⟨fun i=>L.om i\/i=id,L.own,fun i=>if i=id then .slice none 0 0 else L.val i,L.jv⟩
 have iD:sV L w L' w:=⟨aU _,fun x _ h=>h,fun _ _ _=>rfl⟩
 have wa:∀ i,(σ.Cb t id (.row nl T 0 sz el)).bo i=if i=id then some (.row nl T 0 sz el)else σ.bo i:=by
  intro i;unfold PS.bo PS.Cb;rw[tA];by_cases h:id=i
  .rw [aR h,aR h.symm]
  .rw [aQ h,aQ (fun e=>h e.symm)]
 have hv:a.tmps.getD t undef = .slice none 0 0:=by
  have:=r.ht t;rw[hg]at this;exact iG.kK this
 refine⟨L',r.hd,r.hs,fun s=>?_,fun i b' h=>?_,fun i=>?_,fun i x h=>.inl (r.hn i x h),r.hw,r.hi,r.he,fun h i b' k=>?_⟩
 .have hgs:(σ.Cb t id (.row nl T 0 sz el)).get s=if t=s then .own id else σ.get s:=by
   unfold PS.get PS.Cb;simp only[tA];by_cases h:t=s
   .rw [aR h,aR h];rfl
   .rw [aQ h,aQ h,E4 _ _ _ h]
  rw[hgs];by_cases h:t=s
  .subst h
   rw[aR rfl,hv];exact⟨.inr rfl,(aR rfl).symm⟩
  .rw [aQ h]
   refine nK.move iD (r.ht s) fun i _ u6=>⟨.inl u6,aQ (fun(q:i=id)=>u5 (q▸u6)),fun _=>rfl⟩
 .rw [wa]at h
  split at h
  .rename_i hi
   subst hi;cases h;refine⟨fun _ _=>undef,.inl ⟨aR rfl,rfl⟩,fun x=>⟨fun q=>absurd (r.hn _ _ q) u5,fun q=>?_⟩,fun i j hi=>absurd hi (bj i)⟩;have e1:L'.val i = .slice none 0 0:=aR rfl;rw[e1]at q;cases q
  .rename_i hi
   exact(r.hb i b' h).later iD (aQ hi) (fun _=>Iff.rfl) (fun _=>rfl) fun _ _=>rfl
 .rw [wa]
  show L.om i\/i=id↔_;by_cases hi:i=id
  .subst hi;simp
  .simp only[hi,or_false,a6]
   exact r.hv i
 .rw [wa]at k
  split at k
  .cases k;exact kj h
  .exact r.hl h i b' k
end Go.Proofs.YtdgnpeddgdclhaaGreatDoor.Pu
namespace Go.Proofs.YtdgnpeddgdclhaaGreatDoor.Fp
def mV(x i:Nat)(b o:List Nat):Nat->List Nat×Nat
 | 0=>(o,0)
 |k+1=>
  let r:=mV x i b o k
  let z:=x*b.getD k 0+r.1.getD (i+k) 0+r.2
  (r.1.set (i+k) (z%4294967296),z/4294967296)
def lF(a b:List Nat):Nat->List Nat
 | 0=>List.replicate (a.length+b.length) 0
 |i+1=>
  let r:=mV (a.getD i 0) i b (lF a b i) b.length
  r.1.set (i+b.length) (r.2%4294967296)
theorem US{x y:Nat}(hx:x<4294967296)(hy:y<4294967296):x*y<=18446744065119617025:=by
 have:=cK (show x<=4294967295 by omega) (show y<=4294967295 by omega);omega
theorem xG{L:List Nat}{k x:Nat}(hk:k<L.length):val (L.set k x)+4294967296^k*L.getD k 0=val L+4294967296^k*x:=by
 have:=OI (x:=x) hk;rwa[aW,bd hk]
theorem uU{L:List Nat}{k j x:Nat}(h:k≠j):(L.set k x).getD j 0=L.getD j 0:=by
 simp only[aW,gn h]
theorem Lm{L:List Nat}{k x:Nat}(h:k<L.length):(L.set k x).getD k 0=x:=by
 simp[aW,h]
structure YJ(x i:Nat)(b o:List Nat)(k:Nat)(r:List Nat×Nat):Prop where
 ok:iC r.1
 len:r.1.length=o.length
 lt:r.2<4294967296
 eq:val r.1+4294967296^(i+k)*r.2=val o+4294967296^i*(x*val (b.take k))
 qk:∀ j,i+k<=j->r.1.getD j 0=o.getD j 0
theorem Fb{x i:Nat}{b o:List Nat}(hx:x<4294967296)(hb:iC b)(ho:iC o)(hl:i+b.length<=o.length):∀ k,k<=b.length->YJ x i b o k (mV x i b o k)
 | 0,_=>⟨ho,rfl,amJ _,by simp[mV,val],fun _ _=>rfl⟩
 |k+1,hk=>by
  obtain⟨h1,h2,h3,h4,h5⟩:=Fb hx hb ho hl k ae;have hy:=hb.getD k;have hw:=h1.getD (i+k);have hm:=US hx hy;have hv:=uE b k;simp only[mV];generalize mV x i b o k=r at *
  generalize hz:x*b.getD k 0+r.1.getD (i+k) 0+r.2=z;have uc:=xG (L:=r.1) (k:=i+k) (x:=z%4294967296) ae;refine⟨h1.set _ (bg _ ag),by simpa using h2,by show z/4294967296<_;omega,?_,fun j hj=>?_⟩
  .have e1:z=z%4294967296+4294967296*(z/4294967296):=(dq z _).symm
   show val (r.1.set (i+k) (z%4294967296))+4294967296^(i+(k+1))*(z/4294967296)=_;rw[hv,bn x,bn (4294967296^i),<-cE (val o),<-h4];have e2:4294967296^(i+(k+1))*(z/4294967296)=4294967296^(i+k)*(4294967296*(z/4294967296)):=by rw[show i+(k+1)=(i+k)+1 by omega,aZ,bc]
   have e3:4294967296^i*(x*(4294967296^k*b.getD k 0))=4294967296^(i+k)*(x*b.getD k 0):=by rw[aV];simp only[bc,cD]
   rw[e2,e3];have e4:4294967296^(i+k)*z=4294967296^(i+k)*(x*b.getD k 0)+4294967296^(i+k)*r.1.getD (i+k) 0+4294967296^(i+k)*r.2:=by rw[<-hz,bn,bn]
   have e5:4294967296^(i+k)*z=4294967296^(i+k)*(z%4294967296)+4294967296^(i+k)*(4294967296*(z/4294967296)):=by rw[<-bn,<-e1]
   omega
  .show (r.1.set (i+k) _).getD j 0=_
   rw[uU ae,h5 j ae]
structure YK(a b:List Nat)(i:Nat)(o:List Nat):Prop where
 ok:iC o
 len:o.length=a.length+b.length
 eq:val o=val (a.take i)*val b
 zero:∀ j,i+b.length<=j->o.getD j 0=0
theorem Fc{a b:List Nat}(ha:iC a)(hb:iC b):∀ i,i<=a.length->YK a b i (lF a b i)
 | 0,_=>⟨iC.BS _,by simp[lF],by simp[lF,y9,val],fun j _=>by
  by_cases h:j<a.length+b.length<;>simp[lF,aW,fG,h]⟩
 |i+1,hi=>by
  obtain⟨h1,h2,h3,h4⟩:=Fc ha hb i ae;obtain⟨q1,q2,q3,q4,q5⟩:=Fb (ha.getD i) hb h1 (i:=i) ae b.length (aU _);have hv:=uE a i;simp only[lF];generalize mV (a.getD i 0) i b (lF a b i) b.length=r at *
  have uc:=xG (L:=r.1) (k:=i+b.length) (x:=r.2%4294967296) ae;rw[q5 _ (aU _),h4 _ (aU _),cr,bt,bu q3,q4,fg,h3]at uc;refine⟨q1.set _ (bg _ ag),av,?_,fun j hj=>?_⟩
  .rw [bu q3,uc,hv,bK,bc]
  .rw [uU ae,q5 _ ae,h4 _ ae]
theorem alK{a b:List Nat}(ha:iC a)(hb:iC b):val (lF a b a.length)=val a*val b:=by
 have:=(Fc ha hb a.length (aU _)).eq;rwa[fg]at this
end Go.Proofs.YtdgnpeddgdclhaaGreatDoor.Fp
namespace Go.Proofs.YtdgnpeddgdclhaaGreatDoor
open Go.RowKit Fp Pu
abbrev jb(L:List Nat):Nat->Nat->E:=fun i _=>.v (.int .u32 (L.getD i 0:Int))
theorem uA(n:Nat):IntKind.u32.wrap (n:Int)=((n%4294967296:Nat):Int):=by rw[IntKind.wrap_u32];omega
theorem Ms(n:Nat)(h:n<9223372036854775808):IntKind.i64.wrap (n:Int)=(n:Int):=by rw[IntKind.wrap_i64];omega
theorem B2(n:Nat):(n:Int)/2^32=((n/4294967296:Nat):Int):= ae 
theorem yY(n k:Nat):(n:Int)/2^k=((n/2^k:Nat):Int):=by rw[Int.natCast_ediv,Int.natCast_pow];rfl
theorem yZ{L:List Nat}{n:Nat}(h:n=L.length):E.le (.sl false n 1 (jb L)) (gX L):=by subst h;exact .refl _
theorem FQ{T n n':Nat}{L:List Nat}(hn:n=n')(h:∀ i,L.getD i 0=0):Bx.le (.row false T n 1 fun _ j=>[.v (.int .u32 0)].getD j .any) (.row false T n' 1 (jb L)):=
 .row hn fun i j _ hj=>by
  obtain rfl:j=0:= ae ;refine⟨.iU ?_,rfl⟩;show E.v (.int .u32 0)=E.v (.int .u32 (L.getD i 0:Int));rw[h i];rfl
theorem N4{T n n' p:Nat}{L:List Nat}{z:Nat}(hn:n=n')(hp:p<L.length):Bx.le (.row false T n 1 fun i' j'=>if i'=p/\0<=j'/\j'<0+1 then[.v (.int .u32 (z:Int))].getD (j'-0) .any else(jb L) i' j') (.row false T n' 1 (jb (L.set p z))):=
 .row hn fun i j _ hj=>by
  obtain rfl:j=0:= ae ;refine⟨.iU ?_,rfl⟩;by_cases h:i=p
  .subst h
   rw[aR ⟨rfl,ae,ae⟩];show E.v (.int .u32 (z:Int))=E.v (.int .u32 (((L.set i z).getD i 0:Nat):Int));rw[Fp.Lm hp]
  .rw [aQ (fun q=>h q.1)]
   show E.v (.int .u32 (L.getD i 0:Int))=E.v (.int .u32 (((L.set p z).getD i 0:Nat):Int));rw[Fp.uU (fun q=>h q.symm)]
open Go.RowKit Fp
theorem WK{k l:IntKind}{a b c d:Int}(h:a=b)(h':c=d):Ending.returned (.tuple #[.int k a,.int l c]) = .returned (.tuple #[.int k b,.int l d]):=by rw[h,h']
theorem DR(x y c:Nat)(w:World)(hx:x<4294967296)(hy:y<4294967296)(hc:c<=1):
 Calls Tryz.prog 287 #[.int .u32 x,.int .u32 y,.int .u32 c] w fun e w'=>e = .returned (.tuple #[.int .u32 (((x+y+c)%4294967296:Nat):Int),.int .u32 (((x+y+c)/4294967296:Nat):Int)])/\w=w':=by
 go_enter Tryz.func287,Tryz.ntmps287;go_wp2;go_ret2;refine⟨?_,rfl⟩;exact WK ae ae 
theorem F2(a b:Nat)(ha:a<4294967296)(hb:b<4294967296):bits .or .u32 (a:Int) (b:Int)=((a |||b:Nat):Int):=by
 have h2:a |||b<2^32:=amF ha hb
 show IntKind.u32.wrap ((BitVec.ofInt 32 (a:Int) |||BitVec.ofInt 32 (b:Int)).toNat:Int)=_;rw[BitVec.toNat_or,fh,fh];rw[show((a:Int)%((2^32:Nat):Int)).toNat=a by omega,show((b:Int)%((2^32:Nat):Int)).toNat=b by omega];rw[IntKind.wrap_u32];omega
theorem Yb(a b:Nat)(ha:a<4294967296)(hb:b<4294967296):bits .and .u32 (a:Int) (b:Int)=((a &&& b:Nat):Int):=by
 have h2:a &&& b<2^32:=fe a hb;show IntKind.u32.wrap ((BitVec.ofInt 32 (a:Int) &&& BitVec.ofInt 32 (b:Int)).toNat:Int)=_;rw[BitVec.toNat_and,fh,fh];rw[show((a:Int)%((2^32:Nat):Int)).toNat=a by omega,show((b:Int)%((2^32:Nat):Int)).toNat=b by omega];rw[IntKind.wrap_u32];omega
theorem OF(a b:Nat)(ha:a<4294967296)(hb:b<4294967296):bits .xor .u32 (a:Int) (b:Int)=((a ^^^ b:Nat):Int):=by
 have h2:a ^^^ b<2^32:=ev ha hb;show IntKind.u32.wrap ((BitVec.ofInt 32 (a:Int) ^^^ BitVec.ofInt 32 (b:Int)).toNat:Int)=_;rw[BitVec.toNat_xor,fh,fh];rw[show((a:Int)%((2^32:Nat):Int)).toNat=a by omega,show((b:Int)%((2^32:Nat):Int)).toNat=b by omega];rw[IntKind.wrap_u32];omega
theorem JL(n:Nat)(h:n<4294967296):n/2147483648=(n.testBit 31).toNat:=by
 rw[Nat.testBit_eq_decide_div_mod_eq,show(2:Nat)^31=2147483648 from rfl];have h2:n/2147483648<2:= ae ;generalize n/2147483648=q at *
 have:q=0\/q=1:= ae ;rcases this with rfl|rfl<;>rfl
theorem akG(x y c d:Nat)(hx:x<4294967296)(hy:y<4294967296)(hc:c<=1)(hd:d=(x+(4294967296-y)+(4294967296-c))%4294967296):
 (((4294967295 ^^^ x) &&& y) ||| ((4294967295 ^^^ (x ^^^ y)) &&& d))/2147483648=if x<y+c then 1 else 0:=by
 have Bd:d<4294967296:= ae ;have h1:4294967295 ^^^ x<2^32:=ev ag hx;have h2:x ^^^ y<2^32:=ev hx hy;have h3:4294967295 ^^^ (x ^^^ y)<2^32:=ev ag h2;have h4:(4294967295 ^^^ x) &&& y<2^32:=fe _ hy;have h5:(4294967295 ^^^ (x ^^^ y)) &&& d<2^32:=fe _ Bd;rw[JL _ (amF h4 h5)];have tx:=JL x hx;have ty:=JL y hy;have td:=JL d Bd;rw[Nat.testBit_or,Nat.testBit_and,Nat.testBit_and,amK,amK,amK,show(4294967295:Nat).testBit 31=true by decide];clear h1 h2 h3 h4 h5;generalize x.testBit 31=p at *
 generalize y.testBit 31=q at *
 generalize d.testBit 31=r at *
 cases p<;>cases q<;>cases r<;>simp at tx ty td ⊢ <;> omega
def AT(x y c:Nat):Nat:=if x<y+c then 1 else 0
def wU(x y c:Nat):Nat:=(x+(4294967296-y)+(4294967296-c))%4294967296
theorem D4(x y c:Nat)(hx:x<4294967296)(hy:y<4294967296)(hc:c<=1):wU x y c+y+c=x+4294967296*AT x y c/\AT x y c<=1/\wU x y c<4294967296:=by
 unfold wU AT;split<;>omega
theorem Xz(x y c:Nat)(w:World)(hx:x<4294967296)(hy:y<4294967296)(hc:c<=1):
 Calls Tryz.prog 288 #[.int .u32 x,.int .u32 y,.int .u32 c] w fun e w'=>e = .returned (.tuple #[.int .u32 (wU x y c:Nat),.int .u32 (AT x y c:Nat)])/\w=w':=by
 go_enter Tryz.func288,Tryz.ntmps288;go_wp2;go_ret2;refine⟨?_,rfl⟩;have hd:((x:Int)-(y:Int)-(c:Int))%4294967296=(wU x y c:Int):=by unfold wU;omega
 have hb:=akG x y c (wU x y c) hx hy hc rfl;have hl:=(D4 x y c hx hy hc).2.2;have em:IntKind.u32.max=((4294967295:Nat):Int):=rfl;refine WK hd ?_;rw[hd,em,OF _ _ ag hx,OF _ _ hx hy];have h1:4294967295 ^^^ x<2^32:=ev ag hx;have h2:x ^^^ y<2^32:=ev hx hy;have h3:4294967295 ^^^ (x ^^^ y)<2^32:=ev ag h2;rw[OF _ _ ag h2,Yb _ _ h1 hy,Yb _ _ h3 hl];have h4:(4294967295 ^^^ x) &&& y<2^32:=fe _ hy;have h5:(4294967295 ^^^ (x ^^^ y)) &&& wU x y c<2^32:=fe _ hl;rw[F2 _ _ h4 h5];unfold AT;rw[<-hb];omega
open Go.RowKit Fp
theorem Pf{O:List Nat}{k c x y P Q P' Q':Nat}(ho:O[k]? = some 0)(h:val O+4294967296^k*c=P+Q)
 (hP:P'=P+4294967296^k*x) (hQ:Q'=Q+4294967296^k*y):
 val (O.set k ((x+y+c)%4294967296))+4294967296^(k+1)*((x+y+c)/4294967296)=P'+Q':=by
 have h1:=M3 (a:=1) (b:=x+y) (c:=c) ho;rw[bI,bt]at h1;rw[h1,h,hP,hQ,bn];omega
theorem XC{O:List Nat}{k c x y d c' P Q P' Q':Nat}(ho:O[k]? = some 0)(h:val O+Q=P+4294967296^k*c)
 (hP:P'=P+4294967296^k*x) (hQ:Q'=Q+4294967296^k*y) (hd:d+y+c=x+4294967296*c'):
 val (O.set k d)+Q'=P'+4294967296^(k+1)*c':=by
 obtain⟨hk,h0⟩:=bU.1 ho;have h1:=OI (x:=d) hk;rw[h0,cr,bt]at h1;have e:=congrArg (4294967296^k * ·) hd;simp only[bn,<-bc]at e;rw[aZ,h1,hP,hQ];omega
def tJ(O:List Nat)(k:Nat):Prop:=∀ j,k<=j->j<O.length->O[j]? = some 0
theorem tJ.at{O:List Nat}{k:Nat}(h:tJ O k)(hk:k<O.length):O[k]? = some 0:=h k (aU _) hk
theorem tJ.set{O:List Nat}{k:Nat}(h:tJ O k)(v:Nat):tJ (O.set k v) (k+1):=fun j h1 h2=>by
 rw[gn ae];exact h j ae (by simpa using h2)
theorem tJ.ON(n:Nat):tJ (List.replicate n 0) 0:=fun j _ h=>by
 rw[fG];rw[aR (by simpa using h)]
def J3(w:World)(v n:Nat)(e:Ending)(w':World):Prop:=∃ T,val T=v/\iC T/\T.length=n/\sX w T e w'
def OY(w:World)(v n:Nat)(e:Ending)(w':World):Prop:=∃ T,val T=v/\iC T/\T.length<=n/\sX w T e w'
theorem agQ(A B:Option Addr)(c d:Nat)(L M:List Nat)(w:World)(hs:Sl w A c L)(hr:Sl w B d M)(h1:L.length<=3000)(_h2:M.length<=3000)(hc:M.length<=L.length):
 Calls Tryz.prog 260 #[.slice A L.length c,.slice B M.length d] w (J3 w (val L+val M) (L.length+1)):=by
 obtain⟨l,hl⟩:∃ l,l=L.length:=⟨_,rfl⟩
 obtain⟨m,hm⟩:∃ m,m=M.length:=⟨_,rfl⟩
 rw[<-hl,<-hm]at hc;rw[<-hl]at h1;rw[<-hm]at _h2;have HL:=Lib.hid hl;have HM:=Lib.hid hm;rw[<-hl,<-hm];clear hl hm;have d0:decide ((l:Int)<(m:Int))=false:=aT ae;have d1:decide (l<m)=false:=aT ae;have oW:=C9 (l+1) ae;rw[show((l+1:Nat):Int)=(l:Int)+1 by omega]at oW;have uY:=Lib.hid (Rw.xw w (l+1));go_enter Tryz.func260,Tryz.ntmps260;go_wp2;go_loopw [6,7,8,9,23] (fun cy _ _ _ i wr=>∃ (k q:Nat) (O:List Nat),k<=l/\i = .int .i64 k/\cy = .int .u32 q/\q<=1/\O.length=l+1/\iC O/\tJ O k/\val O+4294967296^k*q=val (L.take k)+val (M.take k)/\Rw wr w.heap.size O/\iy w wr) (fun _ _ _ _ i _=>l-(intOf i).toNat)
 case atStart=>
  exact⟨0,0,List.replicate (l+1) 0,bL _,rfl,rfl,ag,aj,iC.BS _,tJ.ON _,by simp[y9],uY.out,iy.alloc _ _⟩
 case round=>
  obtain⟨k,q,O,hk,rfl,rfl,hq,hO,kX,hz,kY,hR,hb⟩:=hrel;have HV:=Lib.hid kY;have HO:=Lib.hid hO;clear kY hO;have HZ:=Lib.hid hz;clear hz;by_cases iD:k<l
  .have th:k<L.length:=by have:=HL.out;omega
   obtain⟨ab,ao,e1,_,c1⟩:=(hs.below hb).lr th;have mB:L[k]<4294967296:=hs.ok.get th;have ho:=HZ.out.at (by have:=HO.out;omega)
   have c4:=hR.frozen k;have HW:=hR.cell ho;have HT:=Lib.hid (xH L k th);have HY:=Lib.hid (uE M k);have px:M.getD k 0<4294967296:=hr.ok.getD k;have HYc:=Lib.hid (fun(h:k<M.length)=>(hr.below hb).lr h);have HYg:=Lib.hid (fun(h:k<M.length)=>zL h);have HYn:=Lib.hid (fun(h:¬k<M.length)=>CA h);have HX:=Lib.hid (rfl:L[k]=L[k]);obtain⟨a,ha⟩:∃ a,a=L[k]:=⟨_,rfl⟩
   rw[<-ha]at c1 mB HT;clear ha HX th;have HS:=Lib.hid (Pf ho HV.out HT.out HY.out);have HN:=Lib.hid (fun v=>HZ.out.set v);have HOK:=Lib.hid (fun v=>kX.Jx k v);have HR2:=Lib.hid (fun v:Nat=>hR.set k v);have HE2:=Lib.hid (fun v:Value=>hb.setCell (p:=⟨w.heap.size,k,none⟩) (aU _) v);clear ho hR hb kX;subst e1;by_cases TB:k<m
   .have wi:k<M.length:=by have:=HM.out;omega
    obtain⟨bb,bo,e2,_,c2⟩:=HYc.out wi;subst e2;rw[<-HYg.out wi]at c2;generalize M.getD k 0=b at *
    clear HYc HYg HYn wi;have HA:=Lib.hid (fun w=>DR a b q w mB px hq);go_wp2_with fail;refine(HA.out _).mono ?_;rintro e w1 ⟨rfl,rfl⟩;go_wp2;go_roundw
    case rel=>
     exact⟨k+1,(a+b+q)/4294967296,O.set k ((a+b+q)%4294967296),ae,by go_num,rfl,ae,by rw[cv];exact HO.out,HOK.out _,HN.out _,HS.out,HR2.out _,HE2.out _⟩
    case measure=>simp[intOf];omega
   .rw [HYn.out (by have:=HM.out;omega)]at HS
    clear HYc HYg HYn px HY;have HA:=Lib.hid (fun w=>DR a 0 q w mB ag hq);go_wp2_with fail;refine(HA.out _).mono ?_;rintro e w1 ⟨rfl,rfl⟩;go_wp2;go_roundw
    case rel=>
     exact⟨k+1,(a+0+q)/4294967296,O.set k ((a+0+q)%4294967296),ae,by go_num,rfl,ae,by rw[cv];exact HO.out,HOK.out _,HN.out _,HS.out,HR2.out _,HE2.out _⟩
    case measure=>simp[intOf];omega
  .obtain rfl:k=l:= ae 
   have ho:=HZ.out.at (by have:=HO.out;omega)
   have c4:=hR.frozen k;have HW:=hR.cell ho;have HF:=Lib.hid (show val (O.set k q)=val L+val M by
    have h:=KA (c:=q) ho;rw[bW,bu ae,bS ae,cr,bt,HV.out,show L.take k=L from ck (by rw[HL.out];exact aU _),show M.take k=M from ck (by rw[<-HM.out];omega)]at h;omega)
   have HLn:=Lib.hid (show(O.set k q).length=k+1 by rw[cv];exact HO.out);have HOK:Hid (iC (O.set k q)):=kX.set k ae;have HR2:=Lib.hid (hR.set k q);have HE2:=Lib.hid (fun v:Value=>hb.setCell (p:=⟨w.heap.size,k,none⟩) (aU _) v);clear ho hR hb kX;go_wp2;go_ret;have tv:=HR2.out.sl HOK.out (by rw[HLn.out];omega);rw[HLn.out]at tv;exact⟨_,HF.out,HOK.out,HLn.out,_,_,(by rw[HLn.out];rfl),tv,HE2.out _⟩
theorem agR(A B:Option Addr)(c d:Nat)(L M:List Nat)(w:World)(hs:Sl w A c L)(hr:Sl w B d M)(h1:L.length<=3000)(h2:M.length<=3000)(hc:L.length<M.length):
 Calls Tryz.prog 260 #[.slice A L.length c,.slice B M.length d] w (J3 w (val L+val M) (M.length+1)):=by
 obtain⟨l,hl⟩:∃ l,l=L.length:=⟨_,rfl⟩
 obtain⟨m,hm⟩:∃ m,m=M.length:=⟨_,rfl⟩
 rw[<-hl,<-hm]at hc;rw[<-hl]at h1;rw[<-hm]at h2;have HL:=Lib.hid hl;have HM:=Lib.hid hm;rw[<-hl,<-hm];clear hl hm;have d0:decide ((l:Int)<(m:Int))=true:=aS ae;have d1:decide (l<m)=true:=aS ae;have oW:=C9 (m+1) ae;rw[show((m+1:Nat):Int)=(m:Int)+1 by omega]at oW;have uY:=Lib.hid (Rw.xw w (m+1));go_enter Tryz.func260,Tryz.ntmps260;go_wp2;go_loopw [6,7,8,9,23] (fun cy _ _ _ i wr=>∃ (k q:Nat) (O:List Nat),k<=m/\i = .int .i64 k/\cy = .int .u32 q/\q<=1/\O.length=m+1/\iC O/\tJ O k/\val O+4294967296^k*q=val (M.take k)+val (L.take k)/\Rw wr w.heap.size O/\iy w wr) (fun _ _ _ _ i _=>m-(intOf i).toNat)
 case atStart=>
  exact⟨0,0,List.replicate (m+1) 0,bL _,rfl,rfl,ag,aj,iC.BS _,tJ.ON _,by simp[y9],uY.out,iy.alloc _ _⟩
 case round=>
  obtain⟨k,q,O,hk,rfl,rfl,hq,hO,kX,hz,kY,hR,hb⟩:=hrel;have HV:=Lib.hid kY;have HO:=Lib.hid hO;clear kY hO;have HZ:=Lib.hid hz;clear hz;by_cases iD:k<m
  .have th:k<M.length:=by have:=HM.out;omega
   obtain⟨ab,ao,e1,_,c1⟩:=(hr.below hb).lr th;have mB:M[k]<4294967296:=hr.ok.get th;have ho:=HZ.out.at (by have:=HO.out;omega)
   have c4:=hR.frozen k;have HW:=hR.cell ho;have HT:=Lib.hid (xH M k th);have HY:=Lib.hid (uE L k);have px:L.getD k 0<4294967296:=hs.ok.getD k;have HYc:=Lib.hid (fun(h:k<L.length)=>(hs.below hb).lr h);have HYg:=Lib.hid (fun(h:k<L.length)=>zL h);have HYn:=Lib.hid (fun(h:¬k<L.length)=>CA h);have HX:=Lib.hid (rfl:M[k]=M[k]);obtain⟨a,ha⟩:∃ a,a=M[k]:=⟨_,rfl⟩
   rw[<-ha]at c1 mB HT;clear ha HX th;have HS:=Lib.hid (Pf ho HV.out HT.out HY.out);have HN:=Lib.hid (fun v=>HZ.out.set v);have HOK:=Lib.hid (fun v=>kX.Jx k v);have HR2:=Lib.hid (fun v:Nat=>hR.set k v);have HE2:=Lib.hid (fun v:Value=>hb.setCell (p:=⟨w.heap.size,k,none⟩) (aU _) v);clear ho hR hb kX;subst e1;by_cases TB:k<l
   .have wi:k<L.length:=by have:=HL.out;omega
    obtain⟨bb,bo,e2,_,c2⟩:=HYc.out wi;subst e2;rw[<-HYg.out wi]at c2;generalize L.getD k 0=b at *
    clear HYc HYg HYn wi;have HA:=Lib.hid (fun w=>DR a b q w mB px hq);go_wp2_with fail;refine(HA.out _).mono ?_;rintro e w1 ⟨rfl,rfl⟩;go_wp2;go_roundw
    case rel=>
     exact⟨k+1,(a+b+q)/4294967296,O.set k ((a+b+q)%4294967296),ae,by go_num,rfl,ae,by rw[cv];exact HO.out,HOK.out _,HN.out _,HS.out,HR2.out _,HE2.out _⟩
    case measure=>simp[intOf];omega
   .rw [HYn.out (by have:=HL.out;omega)]at HS
    clear HYc HYg HYn px HY;have HA:=Lib.hid (fun w=>DR a 0 q w mB ag hq);go_wp2_with fail;refine(HA.out _).mono ?_;rintro e w1 ⟨rfl,rfl⟩;go_wp2;go_roundw
    case rel=>
     exact⟨k+1,(a+0+q)/4294967296,O.set k ((a+0+q)%4294967296),ae,by go_num,rfl,ae,by rw[cv];exact HO.out,HOK.out _,HN.out _,HS.out,HR2.out _,HE2.out _⟩
    case measure=>simp[intOf];omega
  .obtain rfl:k=m:= ae 
   have ho:=HZ.out.at (by have:=HO.out;omega)
   have c4:=hR.frozen k;have HW:=hR.cell ho;have HF:=Lib.hid (show val (O.set k q)=val L+val M by
    have h:=KA (c:=q) ho;rw[bW,bu ae,bS ae,cr,bt,HV.out,show M.take k=M from ck (by rw[HM.out];exact aU _),show L.take k=L from ck (by rw[<-HL.out];omega)]at h;omega)
   have HLn:=Lib.hid (show(O.set k q).length=k+1 by rw[cv];exact HO.out);have HOK:Hid (iC (O.set k q)):=kX.set k ae;have HR2:=Lib.hid (hR.set k q);have HE2:=Lib.hid (fun v:Value=>hb.setCell (p:=⟨w.heap.size,k,none⟩) (aU _) v);clear ho hR hb kX;go_wp2;go_ret;have tv:=HR2.out.sl HOK.out (by rw[HLn.out];omega);rw[HLn.out]at tv;exact⟨_,HF.out,HOK.out,HLn.out,_,_,(by rw[HLn.out];rfl),tv,HE2.out _⟩
theorem U7(A B:Option Addr)(c d:Nat)(L M:List Nat)(w:World)(hs:Sl w A c L)(hr:Sl w B d M)(h1:L.length<=3000)(h2:M.length<=3000):
 Calls Tryz.prog 260 #[.slice A L.length c,.slice B M.length d] w (J3 w (val L+val M) (max L.length M.length+1)):=by
 by_cases hc:M.length<=L.length
 .rw [Nat.max_eq_left hc];exact agQ A B c d L M w hs hr h1 h2 hc
 .rw [Nat.max_eq_right ae];exact agR A B c d L M w hs hr h1 h2 ae 
theorem agP(A B:Option Addr)(c d:Nat)(L M:List Nat)(w:World)(hs:Sl w A c L)(hr:Sl w B d M)(h1:L.length<=3000)(h2:M.length<=3000):
 Calls Tryz.prog 260 #[.slice A L.length c,.slice B M.length d] w (OY w (val L+val M) (max L.length M.length+1)):=
 (U7 A B c d L M w hs hr h1 h2).mono fun _ _ ⟨T,a,b,c,d⟩=>⟨T,a,b,fI c,d⟩
theorem agS(A B:Option Addr)(c d:Nat)(L M:List Nat)(w:World)(ua:Sl w A c L)(wu:Sl w B d M)(h1:L.length<=3000)(_h2:M.length<=3000)(hle:val M<=val L):
 Calls Tryz.prog 261 #[.slice A L.length c,.slice B M.length d] w (OY w (val L-val M) L.length):=by
 have Ly:=Lib.hid (fun w (h:Sl w A c L)=>uj A c L w h);have Lz:=Lib.hid (fun w (h:Sl w B d M)=>uj B d M w h);have hs:=ua.tE;have hr:=wu.tE;have EM:=ot L;have Ts:=ot M;have xk:=oH L;have ns:=oH M;have CO:(ik M).length<=(ik L).length:=by
  apply bE;intro h;have:=JS hs.ok (y5 M) ae;omega
 unfold lV at xk ns;rw[<-EM,<-Ts]at hle ⊢;clear EM Ts;obtain⟨n1,rN⟩:∃ n,n=L.length:=⟨_,rfl⟩
 obtain⟨n2,j8⟩:∃ n,n=M.length:=⟨_,rfl⟩
 rw[<-rN]at h1 xk Ly ⊢;rw[<-j8]at _h2 ns Lz ⊢;have HTL:=Lib.hid (Ly.out w ua);have HTM:=Lib.hid (Lz.out w wu);clear Ly Lz ua wu rN j8;generalize ik L=L at *
 generalize ik M=M at *
 obtain⟨l,hl⟩:∃ l,l=L.length:=⟨_,rfl⟩
 obtain⟨m,hm⟩:∃ m,m=M.length:=⟨_,rfl⟩
 rw[<-hl]at xk HTL CO;rw[<-hm]at ns HTM CO;have HL:=Lib.hid hl;have HM:=Lib.hid hm;have HLE:=Lib.hid hle;clear hl hm hle;have oW:=C9 l ae;have uY:=Lib.hid (Rw.xw w l);go_enter Tryz.func261,Tryz.ntmps261;go_wp2_with fail;refine HTL.out.mono ?_;rintro e w1 ⟨rfl,rfl⟩;go_wp2_with fail;refine HTM.out.mono ?_;rintro e w1 ⟨rfl,rfl⟩;go_wp2;go_loopw [6,7,8,9,19] (fun cy _ _ _ i wr=>∃ (k q:Nat) (O:List Nat),k<=l/\i = .int .i64 k/\cy = .int .u32 q/\q<=1/\O.length=l/\iC O/\tJ O k/\val O+val (M.take k)=val (L.take k)+4294967296^k*q/\Rw wr w.heap.size O/\iy w wr) (fun _ _ _ _ i _=>l-(intOf i).toNat)
 case atStart=>
  exact⟨0,0,List.replicate l 0,bL _,rfl,rfl,ag,aj,iC.BS _,tJ.ON _,by simp[y9],uY.out,iy.alloc _ _⟩
 case round=>
  obtain⟨k,q,O,hk,rfl,rfl,hq,hO,kX,hz,kY,hR,hb⟩:=hrel;have HV:=Lib.hid kY;have HO:=Lib.hid hO;clear kY hO;have HZ:=Lib.hid hz;clear hz;by_cases iD:k<l
  .have th:k<L.length:=by have:=HL.out;omega
   obtain⟨ab,ao,e1,_,c1⟩:=(hs.below hb).lr th;have mB:L[k]<4294967296:=hs.ok.get th;have ho:=HZ.out.at (by have:=HO.out;omega)
   have c4:=hR.frozen k;have HW:=hR.cell ho;have HT:=Lib.hid (xH L k th);have HY:=Lib.hid (uE M k);have px:M.getD k 0<4294967296:=hr.ok.getD k;have HYc:=Lib.hid (fun(h:k<M.length)=>(hr.below hb).lr h);have HYg:=Lib.hid (fun(h:k<M.length)=>zL h);have HYn:=Lib.hid (fun(h:¬k<M.length)=>CA h);obtain⟨a,ha⟩:∃ a,a=L[k]:=⟨_,rfl⟩
   rw[<-ha]at c1 mB HT;clear ha th;have HN:=Lib.hid (fun v=>HZ.out.set v);have HOK:=Lib.hid (fun(v:Nat) (h:v<4294967296)=>kX.set k h);have HR2:=Lib.hid (fun v:Nat=>hR.set k v);have HE2:=Lib.hid (fun v:Value=>hb.setCell (p:=⟨w.heap.size,k,none⟩) (aU _) v);have HO0:=Lib.hid ho;clear ho hR hb kX;subst e1;by_cases TB:k<m
   .have wi:k<M.length:=by have:=HM.out;omega
    obtain⟨bb,bo,e2,_,c2⟩:=HYc.out wi;subst e2;rw[<-HYg.out wi]at c2;generalize M.getD k 0=b at *
    clear HYc HYg HYn wi;have HS:=Lib.hid (XC HO0.out HV.out HT.out HY.out (D4 a b q mB px hq).1);have HD:=Lib.hid (D4 a b q mB px hq).2;have HA:=Lib.hid (fun w=>Xz a b q w mB px hq);generalize wU a b q=dd at *
    generalize AT a b q=bb' at *
    go_wp2_with fail;refine(HA.out _).mono ?_;rintro e w1 ⟨rfl,rfl⟩;go_wp2;go_roundw
    case rel=>
     exact⟨k+1,bb',O.set k dd,ae,by go_num,rfl,HD.out.1,by rw[cv];exact HO.out,HOK.out _ HD.out.2,HN.out _,HS.out,HR2.out _,HE2.out _⟩
    case measure=>simp[intOf];omega
   .rw [HYn.out (by have:=HM.out;omega)]at HY
    clear HYc HYg HYn px;have HS:=Lib.hid (XC HO0.out HV.out HT.out HY.out (D4 a 0 q mB ag hq).1);have HD:=Lib.hid (D4 a 0 q mB ag hq).2;have HA:=Lib.hid (fun w=>Xz a 0 q w mB ag hq);generalize wU a 0 q=dd at *
    generalize AT a 0 q=bb' at *
    go_wp2_with fail;refine(HA.out _).mono ?_;rintro e w1 ⟨rfl,rfl⟩;go_wp2;go_roundw
    case rel=>
     exact⟨k+1,bb',O.set k dd,ae,by go_num,rfl,HD.out.1,by rw[cv];exact HO.out,HOK.out _ HD.out.2,HN.out _,HS.out,HR2.out _,HE2.out _⟩
    case measure=>simp[intOf];omega
  .obtain rfl:k=l:= ae 
   have HF:=Lib.hid (show val O=val L-val M by
    have h:=HV.out;rw[show L.take k=L from ck (by rw[HL.out];exact aU _),show M.take k=M from ck (by rw[<-HM.out];exact CO)]at h;exact(XB kX HO.out h HLE.out).2)
   go_wp2;go_ret;have tv:=hR.sl kX (by rw[HO.out];omega);exact⟨_,HF.out,kX,by rw[HO.out];exact xk,_,_,(by rw[HO.out];rfl),tv,hb⟩
open Go.RowKit Fp
theorem X3{T:List Nat}{v:Nat}(h:iC T)(hv:val T=v):ik T=gV v:=by rw[qy h,hv]
theorem UU(A B:Option Addr)(c d:Nat)(L M:List Nat)(w:World)(hs:Sl w A c L)(hr:Sl w B d M)(h1:L.length<=256)(h2:M.length<=256)(hf:(gV (val L+val M)).length<=256):
 Calls Tryz.prog 218 #[.slice A L.length c,.slice B M.length d] w (B9 w (gV (val L+val M)) 0):=by
 have H1:=Lib.hid (fun w (h:Sl w A c L) (k:Sl w B d M)=>agP A B c d L M w h k ae ae);generalize val L+val M=v at *
 go_enter Tryz.func218,Tryz.ntmps218;go_wp2_with fail;refine(Us _ A B _ c _ d _ false (O3 _ _ _ _ _ _ _) (O4 _ _ _ _ _ _ _) av).mono ?_;rintro e w' ⟨rfl,rfl⟩;go_wp2_with fail;refine(H1.out _ (hs.alloc _) (hr.alloc _)).mono ?_;rintro e w' ⟨T,hv,hk,hl,A',c',rfl,mK,hb⟩;have ht:=Lib.hid (X3 hk hv);go_wp2_with fail;refine(Fg A' c' T _ mK (by rw[ht.out];exact hf)).mono ?_;rintro e w'' ⟨A'',c'',rfl,qH,mP⟩;rw[ht.out]at qH ⊢;go_wp2;go_ret2;exact⟨A'',c'',rfl,qH,(iy.alloc _ _).trans (hb.trans mP)⟩
theorem M9(A B:Option Addr)(c d:Nat)(L M:List Nat)(w:World)(hs:Sl w A c L)(hr:Sl w B d M)(h1:L.length<=256)(h2:M.length<=256)(hle:val M<=val L):
 Calls Tryz.prog 219 #[.slice A L.length c,.slice B M.length d] w (B9 w (gV (val L-val M)) 0):=by
 have H1:=Lib.hid (fun w (h:Sl w A c L) (k:Sl w B d M)=>agS A B c d L M w h k ae ae hle);have HC:=Lib.hid (fun w (h:Sl w A c L) (k:Sl w B d M)=>Ff A B c d L M w h k ae ae);have hc:decide (kg (val L) (val M)<0)=false:=by
  apply aT;unfold kg;rw[aQ ae];split<;>decide
 have hf:(gV (val L-val M)).length<=256:=aX (lX (dj _ _)) (MT hs.ok h1);generalize val L-val M=v at *
 generalize kg (val L) (val M)=q at *
 clear hle;go_enter Tryz.func219,Tryz.ntmps219;go_wp2_with fail;refine(Us _ A B _ c _ d _ false (O3 _ _ _ _ _ _ _) (O4 _ _ _ _ _ _ _) av).mono ?_;rintro e w' ⟨rfl,rfl⟩;go_wp2_with fail;refine(HC.out _ (hs.alloc _) (hr.alloc _)).mono ?_;rintro e w1 ⟨rfl,jc⟩;go_wp2_with fail;refine(H1.out _ ((hs.alloc _).below jc) ((hr.alloc _).below jc)).mono ?_;rintro e w' ⟨T,hv,hk,hl,A',c',rfl,mK,hb⟩;have ht:=Lib.hid (X3 hk hv);go_wp2_with fail;refine(Fg A' c' T _ mK (by rw[ht.out];exact hf)).mono ?_;rintro e w'' ⟨A'',c'',rfl,qH,mP⟩;rw[ht.out]at qH ⊢;go_wp2;go_ret2;exact⟨A'',c'',rfl,qH,(iy.alloc _ _).trans (jc.trans (hb.trans mP))⟩
end Go.Proofs.YtdgnpeddgdclhaaGreatDoor
namespace Go.Proofs.YtdgnpeddgdclhaaGreatDoor.Fp
def kB(d:Dy):Dy:=if mQ d then d else jA
def mJ(d:Dy):Int:=if mQ d then 0 else 9
theorem AW{d:Dy}(h:mQ d):kB d=d:=aR h
theorem GO{d:Dy}(h:mQ d):mJ d=0:=aR h
theorem KC{d:Dy}(h:¬mQ d):kB d=jA:=aQ h
theorem GN{d:Dy}(h:¬mQ d):mJ d=9:=aQ h
theorem Qn{d:Dy}(h:d.lI):(kB d).ia:=by
 by_cases hr:mQ d
 .rw [AW hr];exact⟨h,hr⟩
 .rw [KC hr];exact rD
theorem Ot{a b:Dy}(ha:a.m≠0)(hb:b.m≠0):iI a b=iI b a:=by
 unfold iI;rw[aQ ha,aQ hb,aQ hb,aQ ha,Int.min_comm,Int.add_comm]
theorem XI{a b:Dy}(ha:a.ia)(hb:b.ia)(a0:a.m≠0)(b0:b.m≠0){k:Int}(hk:min a.e b.e=k)(h1:4097<a.iu-k)(h2:1<a.iu-b.iu):¬mQ (iI a b):=by
 have SV:k<=a.e:= ae ;have SW:k<=b.e:= ae ;have m1:=GG a0 SV;have m2:=GG b0 SW;have ta:a.iu=ib a.m+a.e:=by unfold Dy.iu;rw[aQ a0]
 have tb:b.iu=ib b.m+b.e:=by unfold Dy.iu;rw[aQ b0]
 have ba:ib a.m<=4096:=by rcases ha.range with h|⟨h,_⟩;exact absurd h a0;exact h
 have kI:a.e≠k:= ae ;have Hy:b.e=k:= ae ;have oa:a.jQ k%2=0:=by
  unfold Dy.jQ;obtain⟨j,hj⟩:∃ j,(a.e-k).toNat=j+1:=⟨(a.e-k).toNat-1,ae⟩
  rw[hj,aZ,<-bc,eF]
 have ob:b.jQ k%2=1:=by
  unfold Dy.jQ;rw[Hy,show(k-k).toNat=0 by omega,bN,bO];rcases hb.canon with⟨h,_,_⟩|h
  .exact absurd h b0
  .exact h
 have pa:=vg a0 k;obtain⟨p,hp⟩:∃ p,ib (a.jQ k)=p+2:=⟨ib (a.jQ k)-2,ae⟩
 have l1:=rB (show a.jQ k≠0 by omega);have l2:=oN (b.jQ k);rw[hp,show p+2-1=p+1 by omega,aZ]at l1;have l3:2^ib (b.jQ k)<=2^p:=bh ag ae;have hz:(a.num k+b.num k).natAbs%2=1/\2^p<=(a.num k+b.num k).natAbs:=by
  unfold Dy.num;generalize a.jQ k=x at *
  generalize b.jQ k=y at *
  generalize 2^p=P at *
  split<;>split<;>omega
 unfold iI;rw[aQ a0,aQ b0,hk];unfold kV;generalize (a.num k+b.num k).natAbs=z at *
 generalize decide (a.num k+b.num k<0)=s at *
 have hc:canon s z k=⟨s,z,k⟩:=Dy.lI.Ch (d:=⟨s,z,k⟩) (.inr hz.1);rw[hc];have hb:=sk.2 hz.2;rintro(h|⟨h,_⟩)
 .simp only at h;omega
 .simp only at h;omega
theorem akK{a b:Dy}(ha:a.ia)(hb:b.ia)(a0:a.m≠0)(b0:b.m≠0){k:Int}(hk:min a.e b.e=k)(h1:4097<max a.iu b.iu-k)(h2:1<a.iu-b.iu\/1<b.iu-a.iu):¬mQ (iI a b):=by
 rcases h2 with h2|h2
 .exact XI ha hb a0 b0 hk ae h2
 .rw [Ot a0 b0]
  exact XI (k:=k) hb ha b0 a0 (by rw[Int.min_comm];exact hk) ae h2
theorem akM{a b:Dy}(ha:a.ia)(hb:b.ia)(a0:a.m≠0)(b0:b.m≠0){k:Int}(hk:min a.e b.e=k)(h:¬(4097<max a.iu b.iu-k/\(1<a.iu-b.iu\/1<b.iu-a.iu))):
 ib (a.m*2^(a.e-k).toNat)<=4097/\ib (b.m*2^(b.e-k).toNat)<=4097:=by
 have ta:a.iu=ib a.m+a.e:=by unfold Dy.iu;rw[aQ a0]
 have tb:b.iu=ib b.m+b.e:=by unfold Dy.iu;rw[aQ b0]
 have ba:ib a.m<=4096:=by rcases ha.range with h|⟨h,_⟩;exact absurd h a0;exact h
 have bb:ib b.m<=4096:=by rcases hb.range with h|⟨h,_⟩;exact absurd h b0;exact h
 rw[qo a0,qo b0];omega
theorem ZZ{x y n:Nat}(hx:ib x<=n)(hy:ib y<=n):ib (x+y)<=n+1:=by
 rw[kO]at *
 rw[aZ];omega
def ja(m:Nat)(e:Int)(p:Nat):Nat:=(max (max ((ib m:Int)-p) (-16384-e)) 0).toNat
def kC(m:Nat)(e:Int)(more:Bool)(p:Nat)(out:Bool):Nat:=
 m/2^ja m e p+if out=true/\(more=true\/m%2^ja m e p≠0)then 1 else 0
def lO(m:Nat)(e:Int)(more:Bool)(p:Nat)(out:Bool):Bool:=
 decide (kC m e more p out≠0)&&decide (16384<(ib (kC m e more p out):Int)+e+ja m e p)
def jP(neg:Bool)(m:Nat)(e:Int)(more:Bool)(p:Nat)(up:Bool):Dy:=
 if lO m e more p (neg != up)=true then(if(neg != up)=true then jA else canon neg (2^p-1) (16384-p))else canon neg (kC m e more p (neg != up)) (e+ja m e p)
def jG(neg:Bool)(m:Nat)(e:Int)(more:Bool)(p:Nat)(up:Bool):Int:=
 if(lO m e more p (neg != up)&&(neg != up))=true then 9 else 0
theorem aby{N d k:Nat}:(N/2^d%2^k≠0\/N%2^d≠0)↔N%2^(d+k)≠0:=by
 have e1:N%2^(d+k)=N%2^d+2^d*(N/2^d%2^k):=by rw[aV,fJ]
 have hp:0<2^d:=aY ag;rw[e1];constructor
 .rintro (h|h)
  .have:=eC hp (dB h)
   omega
  .omega
 .intro h
  by_cases h1:N%2^d=0
  .left
   intro h2;rw[h1,h2,cr]at h;exact h rfl
  .exact .inr h1
theorem abm{N:Nat}{E:Int}{more:Bool}{d p:Nat}(hb:p<ib (N/2^d)):
 ja (N/2^d) (E+d) p+d=ja N E p /\
 ∀ out,kC (N/2^d) (E+d) (more||decide (N%2^d≠0)) p out=kC N E more p out:=by
 have hN:d<ib N:=by
  apply bE;intro h;have h1:N<2^d:=kO.1 ae;rw[bS h1]at hb;simp[ib]at hb
 have Ba:ib (N/2^d)+d=ib N:=by
  have h0:N/2^d≠0:=by intro h;rw[h]at hb;simp[ib]at hb
  have h1:=rB h0;have h2:=oN (N/2^d);obtain⟨j,hj⟩:∃ j,ib (N/2^d)=j+1:=⟨ib (N/2^d)-1,ae⟩
  rw[hj]at h1 h2 ⊢;rw[dE,cL (aY ag),<-aV]at h1;rw[bR (aY ag),<-aV]at h2;have:=uJ (k:=j+d) h1 (by rw[show j+d+1=j+1+d by omega];exact h2);omega
 have hk:ja (N/2^d) (E+d) p+d=ja N E p:=by
  unfold ja;omega
 refine⟨hk,fun out=>?_⟩;unfold kC;rw[<-hk];generalize ja (N/2^d) (E+d) p=k;have LR:=@aby N d k;rw[show k+d=d+k by omega,cz,<-aV];congr 1;have:((more||decide (N%2^d≠0))=true\/N/2^d%2^k≠0)↔(more=true\/N%2^(d+k)≠0):=by
  rw[<-LR];simp only[fY,bZ];constructor
  .rintro ((h|h)|h)
   .exact .inl h
   .exact .inr (.inr h)
   .exact .inr (.inl h)
  .rintro (h|h|h)
   .exact .inl (.inl h)
   .exact .inr h
   .exact .inl (.inr h)
 by_cases ho:out=true
 .simp only[ho,true_and,this]
 .rw [aQ (fun h=>ho h.1),aQ (fun h=>ho h.1)]
theorem GQ{N:Nat}{E:Int}{more:Bool}{d p:Nat}(neg up:Bool)(hb:p<ib (N/2^d)):
 jP neg (N/2^d) (E+d) (more||decide (N%2^d≠0)) p up=jP neg N E more p up /\
 jG neg (N/2^d) (E+d) (more||decide (N%2^d≠0)) p up=jG neg N E more p up:=by
 obtain⟨hk,hq⟩:=abm (more:=more) (E:=E) hb;have hq:=hq (neg != up);have e1:E+(d:Int)+(ja (N/2^d) (E+d) p:Int)=E+(ja N E p:Int):= ae ;have e2:(ib (kC N E more p (neg != up)):Int)+(E+(d:Int))+(ja (N/2^d) (E+d) p:Int)=(ib (kC N E more p (neg != up)):Int)+E+(ja N E p:Int):= ae ;have ho:lO (N/2^d) (E+d) (more||decide (N%2^d≠0)) p (neg != up)=lO N E more p (neg != up):=by
  unfold lO;rw[hq,e2]
 unfold jP jG;rw[hq,ho,e1];exact⟨rfl,rfl⟩
theorem Kz(s:Bool)(m:Nat)(e:Int)(j:Nat):canon s (m*2^j) (e-j)=canon s m e:=by
 by_cases h0:m=0
 .subst h0;rw[ch];rfl
 .have h1:m*2^j≠0:=dr h0 (dF (aY ag))
  obtain⟨q,hq,he⟩:=AX h0;have hc:jO (m*2^j)=jO m+j:=by
   conv=>lhs;rw[he,bc,<-aV]
   exact xU hq _
  unfold canon;rw[aQ h1,aQ h0,hc,aV,a7 (2^jO m),<-cz,dt _ (aY ag)];rw[show e-(j:Int)+((jO m+j:Nat):Int)=e+(jO m:Int)by omega]
theorem abl(neg up:Bool)(N:Nat)(E:Int)(j p:Nat)(h0:N≠0):
 jP neg (N*2^j) (E-j) false p up=jP neg N E false p up/\jG neg (N*2^j) (E-j) false p up=jG neg N E false p up:=by
 have Ba:=qo h0 j;by_cases hk:ja N E p=0
 .
  have sO:ja (N*2^j) (E-j) p<=j:=by unfold ja at hk ⊢;rw[Ba];omega
  obtain⟨i,hi⟩:∃ i,j=i+ja (N*2^j) (E-j) p:=⟨j-ja (N*2^j) (E-j) p,ae⟩
  generalize hK:ja (N*2^j) (E-j) p=k at *
  have hdiv:N*2^j/2^k=N*2^i:=by
   rw[hi,aV,<-bc,dt _ (aY ag)]
  have Mb:N*2^j%2^k=0:=by
   rw[hi,aV,<-bc];exact eF _ _
  have hq:∀ out,kC (N*2^j) (E-j) false p out=N*2^i:=fun out=>by
   unfold kC;rw[hK,hdiv,Mb];simp
  have tZ:∀ out,kC N E false p out=N:=fun out=>by
   unfold kC;rw[hk];simp[cH]
  have kI:N*2^i≠0:=dr h0 (dF (aY ag));have ho:∀ out,lO (N*2^j) (E-j) false p out=lO N E false p out:=fun out=>by
   unfold lO;rw[hq,tZ,hK,hk,qo h0 i];simp only[cV,kI,h0,er,fH,dZ];rw[amI];omega
  unfold jP jG;rw[ho,hq,tZ,hK,hk];rw[show E-(j:Int)+(k:Int)=E+((0:Nat):Int)-(i:Int)by omega,Kz];exact⟨rfl,rfl⟩
 .have sO:ja (N*2^j) (E-j) p=ja N E p+j:=by unfold ja at hk ⊢;rw[Ba];omega
  have hq:∀ out,kC (N*2^j) (E-j) false p out=kC N E false p out:=fun out=>by
   unfold kC;rw[sO,aV,a7 (2^ja N E p),<-cz,dt _ (aY ag),a7 N,gp];have:(2^j*(N%2^ja N E p)≠0)↔(N%2^ja N E p≠0):=by
    rw[cV,cV,amL];have:=aY (n:=j) (ag:0<2);omega
   simp only[this]
  have ho:∀ out,lO (N*2^j) (E-j) false p out=lO N E false p out:=fun out=>by
   unfold lO;rw[hq,sO];congr 2;rw[eq_iff_iff];omega
  unfold jP jG;rw[ho,hq,sO];rw[show E-(j:Int)+((ja N E p+j:Nat):Int)=E+(ja N E p:Int)by omega];exact⟨rfl,rfl⟩
def jj(d:Dy)(p:Nat)(up:Bool):Dy:=jP d.neg d.m d.e false p up
def jz(d:Dy)(p:Nat)(up:Bool):Int:=jG d.neg d.m d.e false p up
theorem WL(s up:Bool)(m:Nat)(e:Int)(p:Nat)(h0:m≠0):
 jj (canon s m e) p up=jP s m e false p up/\jz (canon s m e) p up=jG s m e false p up:=by
 have hm:=D6 h0;have hq:m/2^jO m≠0:=by have:=Dd h0;omega
 have h:=abl s up (m/2^jO m) (e+jO m) (jO m) p hq;rw[hm,show e+(jO m:Int)-(jO m:Int)=e by omega]at h;unfold jj jz canon;rw[aQ h0];exact⟨h.1.symm,h.2.symm⟩
theorem AU{s:Bool}{m:Nat}{e:Int}(h0:m≠0):(ib (canon s m e).m:Int)+(canon s m e).e=ib m+e/\e<=(canon s m e).e/\(canon s m e).m≠0/\ib (canon s m e).m<=ib m:=by
 have hm:=D6 h0;have hq:m/2^jO m≠0:=by have:=Dd h0;omega
 have h:=qo hq (jO m);rw[hm]at h;unfold canon;rw[aQ h0];simp only;exact⟨ae,ae,hq,ae⟩
theorem QR(m:Nat)(e:Int)(p:Nat):m/2^ja m e p<2^p:=by
 rw[bR (aY ag),<-aV];refine kO.1 ?_;unfold ja;omega
theorem aaU{s:Bool}{q p:Nat}{e:Int}(h:q<=2^p)(hp:1<=p):ib (canon s q e).m<=p:=by
 by_cases h0:q=0
 .subst h0;exact bL _
 .by_cases h1:q=2^p
  .have hc:jO q=p:=by rw[h1];have:=xU (m:=1) rfl p;rwa[bI]at this
   unfold canon;rw[aQ h0,hc,h1,Nat.div_self (aY ag)];exact aX (kO.2 (show 1<2^1 by decide)) hp
  .exact aX (AU h0).2.2.2 (kO.2 ae)
theorem QE(m:Nat)(e:Int)(more:Bool)(p:Nat)(out:Bool):kC m e more p out<=2^p:=by
 have:=QR m e p;unfold kC;split<;>omega
theorem mn(neg:Bool)(m:Nat)(e:Int)(more:Bool)(p:Nat)(up:Bool)(hp:1<=p)(ic:p<=4096):(jP neg m e more p up).ia:=by
 unfold jP;by_cases ho:lO m e more p (neg != up)=true
 .rw [aR ho]
  by_cases hn:(neg != up)=true
  .rw [aR hn];exact rD
  .rw [aQ hn]
   have wq:2<=2^p:=by
    have:=bh (n:=2) ag hp;omega
   have h0:2^p-1≠0:= ae ;have hb:ib (2^p-1)=p:=by
    obtain⟨j,rfl⟩:∃ j,p=j+1:=⟨p-1,ae⟩
    have h2:2^(j+1)=2^j*2:=aZ _ _;have h3:=aY (n:=j) (ag:0<2);exact uJ ae ae 
   obtain⟨h1,h2,h3,h4⟩:=AU (s:=neg) (e:=(16384:Int)-p) h0;have h5:=mS h3;exact⟨qP _ _ _,.inr ⟨ae,ae,ae,ae⟩⟩
 .rw [aQ ho]
  refine⟨qP _ _ _,?_⟩;by_cases h0:kC m e more p (neg != up)=0
  .rw [h0];exact .inl rfl
  .have hq:=aaU (s:=neg) (e:=e+(ja m e p:Int)) (QE m e more p (neg != up)) hp
   obtain⟨h1,h2,h3,h4⟩:=AU (s:=neg) (e:=e+(ja m e p:Int)) h0;have h5:=mS h3;have h6:-16384<=e+(ja m e p:Int):=by unfold ja;omega
   unfold lO at ho;simp only[cV,h0,er,fH,dZ,bZ]at ho;exact .inr ⟨ae,ae,ae,ae⟩
theorem D1{neg:Bool}{m:Nat}{e:Int}{more:Bool}{p:Nat}{up:Bool}:jG neg m e more p up=0↔¬(lO m e more p (neg != up)=true/\(neg != up)=true):=by
 unfold jG;cases lO m e more p (neg != up)<;>cases(neg != up)<;>simp
theorem QG(neg:Bool)(m:Nat)(e:Int)(more:Bool)(p:Nat)(h1:jG neg m e more p false=0)(h2:jG neg m e more p true=0):
 jo (jP neg m e more p false) (jP neg m e more p true)<=0:=by
 have qG:¬lO m e more p true=true:=by
  cases neg
  .rw [D1]at h2;simpa using h2
  .rw [D1]at h1;simpa using h1
 have hle:kC m e more p false<=kC m e more p true:=by
  unfold kC;simp only[bq,false_and,a6];omega
 have mh:¬lO m e more p false=true:=by
  unfold lO at qG ⊢;intro h;apply qG;simp only[bA,bZ]at h ⊢;have:=sZ hle;exact⟨ae,ae⟩
 have key:∀ o:Bool,¬lO m e more p o=true:=fun o=>by cases o;exact mh;exact qG
 unfold jP;rw[aQ (key _),aQ (key _)];rw[Ck (k:=e+(ja m e p:Int)) (zo (bX _)) (zo (bX _)),BK (bX _),BK (bX _)];rw[show(e+(ja m e p:Int)-(e+(ja m e p:Int))).toNat=0 by omega];simp only[bN,bO];unfold vO;cases neg
 .simp only[bq,a6,Bool.false_bne]
  split
  .decide
  .split<;>omega
 .simp only[bk,Bool.true_bne,dH,eP]
  split
  .decide
  .split<;>omega
def mI(b:Dy)(low:Int):Nat:=if low<=b.e then b.m*2^(b.e-low).toNat else b.m/2^(low-b.e).toNat
def nv(b:Dy)(low:Int):Bool:=decide (¬low<=b.e)&&decide (b.m%2^(low-b.e).toNat≠0)
theorem XD{a b:Dy}(ha:a.lI)(hb:b.lI){K:Int}(h1:K<=a.e)(h2:K<=b.e):iI a b=kV (a.num K+b.num K) K:=by
 refine KT (k:=K) (AV ha hb) (qP _ _ _) (Gp (.inr h1) (.inr h2)) (J7 (bX _)) ?_;rw[JF (.inr h1) (.inr h2),Nf (bX _),show(K-K).toNat=0 by omega];simp
theorem Jt{a b:Dy}(ha:a.lI)(hb:b.lI){K:Int}(h1:K<=a.e)(h2:K<=b.e)(s:Bool)(Z:Nat)(h0:Z≠0)(hz:a.num K+b.num K=if s then -(Z:Int)else(Z:Int))(p:Nat)(up:Bool):
 jj (iI a b) p up=jP s Z K false p up/\jz (iI a b) p up=jG s Z K false p up:=by
 have:iI a b=canon s Z K:=by rw[XD ha hb h1 h2,hz,GJ]
 rw[this];exact WL s up Z K p h0
theorem I3(d:Dy)(K:Int):d.num K=if d.neg then -(d.jQ K:Int)else(d.jQ K:Int):=rfl
section
variable {a b:Dy} {low:Int} {p:Nat}
theorem N7(a0:a.m≠0)(b0:b.m≠0)(h1:low<=a.e)(h2:low<=a.iu-p-8)(h3:low<=b.e\/3<=a.iu-b.iu):
 ∃ (K:Int) (d:Nat),K<=a.e/\K<=b.e/\low=K+d/\a.jQ K=a.m*2^(a.e-low).toNat*2^d/\mI b low=b.jQ K/2^d/\(nv b low=decide (b.jQ K%2^d≠0)) /\
  (d=0\/(p+8<=ib (a.m*2^(a.e-low).toNat)/\ib (b.jQ K/2^d)+3<=ib (a.m*2^(a.e-low).toNat))):=by
 have ta:a.iu=ib a.m+a.e:=by unfold Dy.iu;rw[aQ a0]
 have tb:b.iu=ib b.m+b.e:=by unfold Dy.iu;rw[aQ b0]
 have hx:=qo a0 (a.e-low).toNat
 by_cases h:low<=b.e
 .refine ⟨low,0,h1,h,ae,by unfold Dy.jQ;simp,?_,?_,.inl rfl⟩
  .unfold mI Dy.jQ;rw[aR h];simp
  .unfold nv;simp[h,cH]
 .refine ⟨b.e,(low-b.e).toNat,ae,bX _,ae,?_,?_,?_,.inr ⟨ae,?_⟩⟩
  .unfold Dy.jQ
   rw[bc,<-aV];congr 2;omega
  .unfold mI Dy.jQ;rw[aQ h];simp
  .unfold nv Dy.jQ;simp[h]
  .have hm:b.jQ b.e=b.m:=by unfold Dy.jQ;simp
   rw[hm];have hd:ib (b.m/2^(low-b.e).toNat)<=ib b.m-(low-b.e).toNat:=by
    rw[kO,bR (aY ag),<-aV];exact kO.1 ae 
   have:=h3.resolve_left h;omega
theorem ajO(ha:a.lI)(hb:b.lI)(a0:a.m≠0)(b0:b.m≠0)(h1:low<=a.e)(h2:low<=a.iu-p-8)(h3:low<=b.e\/3<=a.iu-b.iu)(hs:a.neg=b.neg)(up:Bool):
 jP a.neg (a.m*2^(a.e-low).toNat+mI b low) low (nv b low) p up=jj (iI a b) p up/\jG a.neg (a.m*2^(a.e-low).toNat+mI b low) low (nv b low) p up=jz (iI a b) p up:=by
 obtain⟨K,d,k1,k2,rfl,hx,hy,hl,hd⟩:=N7 (p:=p) a0 b0 h1 h2 h3;generalize a.m*2^(a.e-(K+d)).toNat=x at *
 have ma:=vg a0 K;have mb:=vg b0 K;obtain⟨r1,r2⟩:=Jt ha hb k1 k2 a.neg (a.jQ K+b.jQ K) ae (by
  rw[I3 a,I3 b,<-hs];cases a.neg<;>simp<;>omega) p up
 rw[r1,r2,hy,hl];have e1:(a.jQ K+b.jQ K)/2^d=x+b.jQ K/2^d:=by
  rw[hx,a7 x,c9 (aY ag)]
 have e2:(a.jQ K+b.jQ K)%2^d=b.jQ K%2^d:=by
  rw[hx,a7 x,dw]
 rcases hd with rfl|⟨uZ,tg⟩
 .simp only[bN,dC,cH]at e1 ⊢
  rw[<-e1];have:K+((0:Nat):Int)=K:= ae ;rw[this];simp
 .have hb:p<ib ((a.jQ K+b.jQ K)/2^d):=by
   rw[e1];have:=sZ (show x<=x+b.jQ K/2^d by omega);omega
  have h:=GQ (E:=K) (more:=false) a.neg up hb;rw[e1,e2,amM]at h;exact h
theorem akH{x N D:Nat}(hD:0<D)(h:N<=x*D):(x*D-N)/D=x-(N/D+if N%D≠0 then 1 else 0)/\((x*D-N)%D≠0↔N%D≠0)/\N/D+(if N%D≠0 then 1 else 0)<=x:=by
 have hN:=bT N D;have hr:=bg N hD;generalize N/D=q at *
 generalize N%D=r at *
 by_cases h0:r=0
 .subst h0
  simp only[cV,gR,a6,bt]at hN ⊢;have hq:q<=x:=by
   apply bE;intro h';have:=bC D (show x+1<=q by omega);rw[bK,a7 q]at this;omega
  have e:x*D-N=(x-q)*D:=by rw[Nat.sub_mul,<-hN,a7 q]
  rw[e,dt _ hD,eF];exact⟨rfl,aj,hq⟩
 .have hq:q+1<=x:=by
   apply bE;intro h';have:=bC D (show x<=q by omega);rw[a7 q]at this;omega
  have e:x*D-N=(D-r)+D*(x-(q+1)):=by
   have h1:D*(x-(q+1))=D*x-D*(q+1):=Nat.mul_sub _ _ _;have h2:D*(q+1)<=D*x:=ca _ hq;rw[bn,bO]at h1 h2;rw[a7 x];omega
  have iD:D-r<D:= ae ;rw[e,eB _ _ hD,bS iD,dP,bu iD];simp only[cV,h0,er,bk];exact⟨ae,⟨fun _=>trivial,fun _=> ae⟩,hq⟩
theorem ajN(ha:a.lI)(hb:b.lI)(a0:a.m≠0)(b0:b.m≠0)(h1:low<=a.e)(h2:low<=a.iu-p-8)(h3:low<=b.e\/3<=a.iu-b.iu)(hs:a.neg≠b.neg)(up:Bool):
  (a.m*2^(a.e-low).toNat<mI b low+(if nv b low=true then 1 else 0) ->
   jP (!a.neg) (mI b low+(if nv b low=true then 1 else 0)-a.m*2^(a.e-low).toNat) low false p up=jj (iI a b) p up/\jG (!a.neg) (mI b low+(if nv b low=true then 1 else 0)-a.m*2^(a.e-low).toNat) low false p up=jz (iI a b) p up) /\
  (mI b low+(if nv b low=true then 1 else 0)<=a.m*2^(a.e-low).toNat ->
   (a.m*2^(a.e-low).toNat-(mI b low+(if nv b low=true then 1 else 0))=0/\nv b low=false->iI a b=jA) /\
   (¬(a.m*2^(a.e-low).toNat-(mI b low+(if nv b low=true then 1 else 0))=0/\nv b low=false) ->
    jP a.neg (a.m*2^(a.e-low).toNat-(mI b low+(if nv b low=true then 1 else 0))) low (nv b low) p up=jj (iI a b) p up/\jG a.neg (a.m*2^(a.e-low).toNat-(mI b low+(if nv b low=true then 1 else 0))) low (nv b low) p up=jz (iI a b) p up)):=by
 obtain⟨K,d,k1,k2,rfl,hx,hy,hl,hd⟩:=N7 (p:=p) a0 b0 h1 h2 h3;generalize a.m*2^(a.e-(K+d)).toNat=x at *
 have ma:=vg a0 K;have mb:=vg b0 K;have Ip:a.num K+b.num K=if a.neg then(b.jQ K:Int)-a.jQ K else(a.jQ K:Int)-b.jQ K:=by
  rw[I3 a,I3 b];cases h:a.neg<;>cases h':b.neg<;>simp[h,h']at hs ⊢ <;> omega
 rw[hy,hl];rcases hd with rfl|⟨uZ,tg⟩
 .
  rw[bN,bO]at hx;have e0:K+((0:Nat):Int)=K:= ae ;simp only[bN,dC,cH,cV,gR,decide_false,bq,a6,bt,e0,and_true];refine⟨fun iD=>?_,fun hle=>⟨fun hz=>?_,fun hz=>?_⟩⟩
  .obtain ⟨r1,r2⟩:=Jt ha hb k1 k2 (!a.neg) (b.jQ K-x) ae (by
    rw[Ip,hx];cases a.neg<;>simp<;>omega) p up
   exact⟨r1.symm,r2.symm⟩
  .rw [XD ha hb k1 k2,Ip,hx]
   have:x=b.jQ K:= ae ;rw[this];cases a.neg<;>simp[kV,canon,jA]
  .obtain ⟨r1,r2⟩:=Jt ha hb k1 k2 a.neg (x-b.jQ K) ae (by
    rw[Ip,hx];cases a.neg<;>simp<;>omega) p up
   exact⟨r1.symm,r2.symm⟩
 .
  have hD:=aY (n:=d) (ag:0<2);have mo:x≠0:=by intro h;rw[h]at uZ;simp[ib]at uZ
  obtain⟨j,hj⟩:∃ j,ib x=j+3:=⟨ib x-3,ae⟩
  have ln:=rB mo;rw[hj,show j+3-1=j+2 by omega,aV]at ln;have CZ:b.jQ K/2^d<2^j:=kO.1 ae;have hle:b.jQ K<=x*2^d:=by
   have h5:=bT (b.jQ K) (2^d);have h6:=bg (b.jQ K) hD;have h7:2^d*(b.jQ K/2^d+1)<=2^d*x:=ca _ ae;rw[bn,bO,a7 _ x]at h7;omega
  obtain⟨e1,e2,e3⟩:=akH hD hle;have hc:(if decide (b.jQ K%2^d≠0)=true then 1 else 0)=(if b.jQ K%2^d≠0 then 1 else 0):=by simp only[bZ]
  rw[hc];have yd:p<ib (x-(b.jQ K/2^d+if b.jQ K%2^d≠0 then 1 else 0)):=by
   have h8:2^(j+1)<=x-(b.jQ K/2^d+if b.jQ K%2^d≠0 then 1 else 0):=by
    rw[aZ];have h9:2^j*2^2<=x:=ln;have vV:=aY (n:=j) (ag:0<2);split<;>omega
   have:=sk.2 h8;omega
  refine⟨fun iD=> ae,fun _=>⟨fun hz=>?_,fun _=>?_⟩⟩
  .exfalso
   rw[hz.1]at yd;simp[ib]at yd
  .obtain ⟨r1,r2⟩:=Jt ha hb k1 k2 a.neg (a.jQ K-b.jQ K) (by
    intro h;rw[<-hx,h,fK]at e1;rw[<-e1]at yd;simp[ib]at yd) (by
    rw[Ip];cases a.neg<;>simp<;>omega) p up
   rw[r1,r2,hx];rw[<-e1]at yd ⊢;have h:=GQ (E:=K) (more:=false) a.neg up yd;rw[amM]at h;have e4:decide ((x*2^d-b.jQ K)%2^d≠0)=decide (b.jQ K%2^d≠0):=amI.2 e2;rw[e4]at h;exact h
end
def jl(m:Nat)(e:Int)(p:Nat):Int:=max (e+ib m-p) (-16384)
def nC(m:Nat)(e:Int)(more:Bool)(p:Nat)(up:Bool):Nat:=
 if jl m e p<=e then m*2^(e-jl m e p).toNat else m/2^(jl m e p-e).toNat+if(up&&(more||decide (m%2^(jl m e p-e).toNat≠0)))=true then 1 else 0
theorem QD{m:Nat}{e:Int}{more:Bool}{p:Nat}(up:Bool)(h0:m≠0)(hm:more=true->p<ib m)(hp:1<=p):
 (ib (nC m e more p up):Int)+jl m e p<=16384/\jP false m e more p up=canon false (nC m e more p up) (jl m e p)/\jG false m e more p up=0 \/
 16384<(ib (nC m e more p up):Int)+jl m e p/\((up=true/\jP false m e more p up=jA/\jG false m e more p up=9)\/(up=false/\jP false m e more p up=canon false (2^p-1) (16384-p)/\jG false m e more p up=0)):=by
 have qG:(false != up)=up:=by cases up<;>rfl
 by_cases hU:jl m e p<=e
 .
  have hmf:more=false:=by
   cases Mc:more with
   |false=>rfl
   |true=>have:=hm Mc;unfold jl at hU;omega
  subst hmf;have hK:ja m e p=0:=by unfold jl at hU;unfold ja;omega
  have hQ:kC m e false p up=m:=by unfold kC;rw[hK];simp[cH]
  have hP:nC m e false p up=m*2^(e-jl m e p).toNat:=by unfold nC;rw[aR hU]
  have hb:ib (nC m e false p up)=ib m+(e-jl m e p).toNat:=by rw[hP];exact qo h0 _
  have hc:canon false (nC m e false p up) (jl m e p)=canon false m e:=by
   rw[hP];have:=Kz false m e (e-jl m e p).toNat
   rwa[show e-((e-jl m e p).toNat:Int)=jl m e p by omega]at this
  have hO:lO m e false p up=decide (16384<(ib m:Int)+e):=by
   unfold lO;rw[hQ,hK];simp[h0]
  by_cases tp:16384<(ib m:Int)+e
  .refine .inr ⟨ae,?_⟩
   unfold jP jG;rw[qG,hO,aS tp];cases up
   .exact .inr ⟨rfl,rfl,rfl⟩
   .exact .inl ⟨rfl,rfl,rfl⟩
  .refine .inl ⟨ae,?_,?_⟩
   .unfold jP
    rw[qG,hO,aT tp,aQ ag,hQ,hK,hc];simp
   .unfold jG
    rw[qG,hO,aT tp];simp
 .have hK:ja m e p=(jl m e p-e).toNat:=by unfold jl at hU ⊢;unfold ja;omega
  have hQ:kC m e more p up=nC m e more p up:=by
   unfold kC nC;rw[aQ hU,hK];congr 1;cases up<;>cases more<;>simp
  have heK:e+(ja m e p:Int)=jl m e p:=by rw[hK];omega
  have kI:16384<(ib (nC m e more p up):Int)+jl m e p->nC m e more p up≠0:=by
   intro h hz;have qa:m/2^(jl m e p-e).toNat=0:=by
    unfold nC at hz;rw[aQ hU]at hz;exact(Nat.add_eq_zero_iff.1 hz).1
   have iD:m<2^(jl m e p-e).toNat:=by
    rcases Nat.div_eq_zero_iff.1 qa with h|h
    .exact absurd h (dF (aY ag))
    .exact h
   have:=kO.2 iD;rw[hz,qX]at h;have sP:=mS h0;unfold jl at h hU this;omega
  have hO:lO m e more p up=decide (16384<(ib (nC m e more p up):Int)+jl m e p):=by
   unfold lO;rw[hQ,show(ib (nC m e more p up):Int)+e+(ja m e p:Int)=(ib (nC m e more p up):Int)+jl m e p by omega];by_cases tp:16384<(ib (nC m e more p up):Int)+jl m e p
   .simp [kI tp]
   .simp [tp]
  by_cases tp:16384<(ib (nC m e more p up):Int)+jl m e p
  .refine .inr ⟨tp,?_⟩
   unfold jP jG;rw[qG,hO,aS tp];cases up
   .exact .inr ⟨rfl,rfl,rfl⟩
   .exact .inl ⟨rfl,rfl,rfl⟩
  .refine .inl ⟨ae,?_,?_⟩
   .unfold jP
    rw[qG,hO,aT tp,aQ ag,hQ,heK]
   .unfold jG
    rw[qG,hO,aT tp];simp
theorem QC{m:Nat}{e:Int}{more:Bool}{p:Nat}{up:Bool}(h0:m≠0):ib (nC m e more p up)<=p+1:=by
 unfold nC;split
 .rename_i h
  rw[qo h0];unfold jl at h ⊢;omega
 .rename_i h
  have h1:m/2^(jl m e p-e).toNat<2^p:=by
   rw[bR (aY ag),<-aV];refine kO.1 ?_;unfold jl at h ⊢;omega
  refine kO.2 ?_;rw[aZ];have:0<2^p:=aY ag;split<;>omega
theorem nh{m k:Nat}(h:ib m<=32*k):(gV m).length<=k:=by
 refine q9 ?_;rw[nF];exact kO.1 h
theorem vK{m k:Nat}(h:(gV m).length<=k):ib m<=32*k:=by
 have:=uh h;rw[nF]at this;exact kO.2 this
theorem QT{m n:Nat}(h:ib m<=n):m/2^n=0/\m%2^n=m:=by
 have:=kO.1 h;exact⟨bS this,bu this⟩
theorem Uw(m n:Nat):(kg (m/2^n*2^n) m != 0)=decide (m%2^n≠0):=by
 have h:=bT m (2^n);rw[a7]at h;unfold kg;by_cases h0:m%2^n=0
 .rw [aQ ae,aQ ae];simp[h0]
 .rw [aR ae];simp[h0]
theorem QJ(neg:Bool)(m:Nat)(e:Int)(more:Bool)(p:Nat)(up:Bool):
 jG neg m e more p up=jG false m e more p (up != neg) /\
 (jG false m e more p (up != neg)=0->neg=true->iF (jP false m e more p (up != neg))=jP neg m e more p up) /\
 ((jG false m e more p (up != neg)≠0\/neg=false)->jP false m e more p (up != neg)=jP neg m e more p up):=by
 have qG:(false != (up != neg))=(neg != up):=by cases up<;>cases neg<;>rfl
 have hE:jG neg m e more p up=jG false m e more p (up != neg):=by unfold jG;rw[qG]
 refine⟨hE,fun h hn=>?_,fun h=>?_⟩
 .have h':=D1.1 h
  rw[qG]at h';have neg_canon:∀ q u,iF (canon false q u)=canon true q u:=by
   intro q u;unfold canon iF;by_cases hq:q=0
   .simp [hq]
   .rw [aQ hq,aQ hq]
    have:=Dd hq;have h0:q/2^jO q≠0:= ae ;simp[h0]
  subst hn;unfold jP;rw[qG];by_cases ho:lO m e more p (true != up)=true
  .have hu:(true != up)=false:=by
    cases hq:(true != up)with
    |false=>rfl
    |true=>exact absurd ⟨ho,hq⟩ h'
   rw[aR ho,aR ho,hu];simp only[bq,a6];exact neg_canon _ _
  .rw [aQ ho,aQ ho]
   exact neg_canon _ _
 .rcases h with h|h
  .have h1:lO m e more p (neg != up)=true/\(neg != up)=true:=by
    by_cases q:lO m e more p (neg != up)=true/\(neg != up)=true
    .exact q
    .exact absurd (D1.2 (by rw[qG];exact q)) h
   unfold jP;rw[qG,aR h1.1,aR h1.2,aR h1.1,aR h1.2]
  .subst h
   cases up<;>rfl
def jm(a b:Dy)(p:Nat):Int:=if a.iu-b.iu<=2 then min (min a.e (a.iu-p-8)) b.e else min a.e (a.iu-p-8)
def nG(a b:Dy)(p:Nat):Nat:=a.m*2^(a.e-jm a b p).toNat
def mH(a b:Dy)(p:Nat):Nat:=mI b (jm a b p)+if(a.neg != b.neg&&nv b (jm a b p))=true then 1 else 0
def o9(a b:Dy)(p:Nat):Bool:=(a.neg != b.neg)&&decide (nG a b p<mH a b p)
def lR(a b:Dy)(p:Nat):Nat:=if a.neg=b.neg then nG a b p+mH a b p else if nG a b p<mH a b p then mH a b p-nG a b p else nG a b p-mH a b p
def mY(a b:Dy)(p:Nat):Bool:=nv b (jm a b p) && !o9 a b p
theorem NX(a b:Dy)(p:Nat):jm a b p<=a.e/\jm a b p<=a.iu-p-8/\(jm a b p<=b.e\/3<=a.iu-b.iu):=by
 unfold jm;split<;>omega
theorem F0{a:Dy}(a0:a.m≠0):a.iu=ib a.m+a.e:=by unfold Dy.iu;rw[aQ a0]
structure YO(a b:Dy)(p:Nat):Prop where
 lo:-17000<=jm a b p
 hi:jm a b p<=16384
 x:ib (nG a b p)<=4100
 x0:nG a b p≠0
 sh:(a.e-jm a b p).toNat<=60000
 sh2:(b.e-jm a b p).toNat<=60000
 sh3:(jm a b p-b.e).toNat<=60000
 y:ib (mI b (jm a b p))<=4100
 l:nv b (jm a b p)=true->p+8<=ib (nG a b p)/\ib (mI b (jm a b p))+3<=ib (nG a b p)
theorem JH{a b:Dy}{p:Nat}(ha:a.ia)(hb:b.ia)(a0:a.m≠0)(b0:b.m≠0)(ht:b.iu<=a.iu)(ic:p<=512):YO a b p:=by
 have ra:=ha.range.resolve_left a0;have rb:=hb.range.resolve_left b0;have ta:=F0 a0;have tb:=F0 b0;obtain⟨h1,h2,h3⟩:=NX a b p;have hx:ib (nG a b p)=ib a.m+(a.e-jm a b p).toNat:=qo a0 _;have zU:jm a b p=a.e\/jm a b p=a.iu-p-8\/(a.iu-b.iu<=2/\jm a b p=b.e):=by unfold jm;split<;>omega
 have hy:ib (mI b (jm a b p))<=ib (nG a b p):=by
  unfold mI;split
  .rw [qo b0];omega
  .have:ib (b.m/2^(jm a b p-b.e).toNat)<=ib b.m-(jm a b p-b.e).toNat:=by
    rw[kO,bR (aY ag),<-aV];exact kO.1 ae 
   omega
 have pa:=mS a0;have pb:=mS b0;refine⟨ae,ae,ae,?_,ae,ae,ae,ae,fun hl=>?_⟩
 .intro h
  unfold nG at h;exact(dr a0 (dF (aY ag))) h
 .obtain ⟨K,d,k1,k2,k3,k4,k5,k6,k7⟩:=N7 (p:=p) a0 b0 h1 h2 h3
  rcases k7 with rfl|⟨k7,k8⟩
  .rw [k6]at hl;simp[cH]at hl
  .rw [k5];exact⟨k7,k8⟩
theorem Ou{a b:Dy}{p:Nat}(ha:a.ia)(hb:b.ia)(a0:a.m≠0)(b0:b.m≠0)(ht:b.iu<=a.iu)(ic:p<=512):
 ib (mH a b p)<=4101/\ib (lR a b p)<=4102/\(mY a b p=true->p<ib (lR a b p)):=by
 obtain⟨l1,l2,l3,l4,l5,l6,l7,l8,l9⟩:=JH ha hb a0 b0 ht ic;have hy:mH a b p<=mI b (jm a b p)+1:=by unfold mH;split<;>omega
 obtain⟨K,hK⟩:∃ K:Nat,K=4100:=⟨_,rfl⟩
 have g1:4101=K+1:= ae ;have g2:4102=K+2:= ae ;rw[g1,g2];rw[<-hK]at l3 l8;have hy4:mI b (jm a b p)<2^K:=kO.1 l8;have hx4:nG a b p<2^K:=kO.1 l3;have e1:(2:Nat)^(K+1)=2*2^K:=by rw[aZ];omega
 have e2:(2:Nat)^(K+2)=4*2^K:=by rw[aV];omega
 generalize (2:Nat)^K=Z at *
 refine⟨kO.2 ae,kO.2 ?_,fun hl=>?_⟩
 .unfold lR;split
  .omega
  .split<;>omega
 .unfold mY at hl
  simp only[bA,fc]at hl;obtain⟨q1,q2⟩:=l9 hl.1;have hX:2^(ib (nG a b p)-1)<=nG a b p:=rB l4;rw[sk];have hY:mI b (jm a b p)<2^(ib (nG a b p)-3):=kO.1 ae;have e3:(2:Nat)^(ib (nG a b p)-1)=4*2^(ib (nG a b p)-3):=by
   rw[show ib (nG a b p)-1=(ib (nG a b p)-3)+2 by omega,aV];omega
  have hp:(2:Nat)^p<=2^(ib (nG a b p)-3):=bh ag ae;unfold lR;split
  .omega
  .rename_i hs
   unfold o9 at hl;rw[aQ (by
    have:=hl.2;simp[hs]at this;omega)]
   omega
theorem XJ{a b:Dy}{p:Nat}(ha:a.ia)(hb:b.ia)(a0:a.m≠0)(b0:b.m≠0)(up:Bool):
 (lR a b p=0/\mY a b p=false->iI a b=jA) /\
 (¬(lR a b p=0/\mY a b p=false)->jP (a.neg != o9 a b p) (lR a b p) (jm a b p) (mY a b p) p up=jj (iI a b) p up/\jG (a.neg != o9 a b p) (lR a b p) (jm a b p) (mY a b p) p up=jz (iI a b) p up):=by
 obtain⟨h1,h2,h3⟩:=NX a b p;by_cases hs:a.neg=b.neg
 .have hn:(a.neg != b.neg)=false:=by rw[hs];simp
  have e1:o9 a b p=false:=by unfold o9;rw[hn];rfl
  have e2:mY a b p=nv b (jm a b p):=by unfold mY;rw[e1];simp
  have e3:lR a b p=a.m*2^(a.e-jm a b p).toNat+mI b (jm a b p):=by unfold lR;rw[aR hs];unfold nG mH;rw[hn];simp
  have hx:lR a b p≠0:=by
   rw[e3];have:=dr a0 (dF (aY (n:=(a.e-jm a b p).toNat) (show 0<2 by decide)));omega
  refine⟨fun h=>absurd h.1 hx,fun _=>?_⟩;rw[e1,e2,e3];have:=ajO ha.canon hb.canon a0 b0 h1 h2 h3 hs up;cases hA:a.neg<;>rw[hA]at this<;>exact this
 .have hn:(a.neg != b.neg)=true:=by simpa using hs
  have eY:mH a b p=mI b (jm a b p)+if nv b (jm a b p)=true then 1 else 0:=by unfold mH;rw[hn];simp
  obtain⟨r1,r2⟩:=ajN (p:=p) ha.canon hb.canon a0 b0 h1 h2 h3 hs up;rw[<-eY]at r1 r2;change nG a b p<mH a b p->_ at r1;change mH a b p<=nG a b p->_ at r2;by_cases hc:nG a b p<mH a b p
  .have e1:o9 a b p=true:=by unfold o9;rw[hn,aS hc];rfl
   have e2:mY a b p=false:=by unfold mY;rw[e1];simp
   have e3:lR a b p=mH a b p-nG a b p:=by unfold lR;rw[aQ hs,aR hc]
   rw[e1,e2,e3];refine⟨fun h=> ae,fun _=>?_⟩;have:=r1 hc;cases hA:a.neg<;>rw[hA]at this<;>exact this
  .have e1:o9 a b p=false:=by unfold o9;rw[hn,aT hc];rfl
   have e2:mY a b p=nv b (jm a b p):=by unfold mY;rw[e1];simp
   have e3:lR a b p=nG a b p-mH a b p:=by unfold lR;rw[aQ hs,aQ hc]
   rw[e1,e2,e3];obtain⟨q1,q2⟩:=r2 ae;refine⟨q1,fun h=>?_⟩;have:=q2 h;cases hA:a.neg<;>rw[hA]at this<;>exact this
end Go.Proofs.YtdgnpeddgdclhaaGreatDoor.Fp
namespace Go.Proofs.YtdgnpeddgdclhaaGreatDoor
open Go.RowKit Fp
theorem Z3(a b:Nat):ib (a*b)<=ib a+ib b:=by
 rw[kO,aV];exact gj (oN a) (oN b)
theorem ajl(a:Dy)(A:Option Addr)(c:Nat)(w:World)(h:Sl w A c (gV a.m))(ha:a.ia):
 Calls Tryz.prog 46 #[DV a A c] w fun e w'=>e = .returned (.bool true)/\iy w w':=
 Jp a.neg A c (gV a.m) a.e w true h (by have:=ha.exp;omega) (by have:=ha.exp;omega) (by simp[ha.vQ])
theorem ajh(a:Dy)(A:Option Addr)(c:Nat)(w:World)(h:Sl w A c (gV a.m)):
 Calls Tryz.prog 47 #[DV a A c] w fun e w'=>e = .returned (.int .i64 a.iJ)/\iy w w':=by
 have:=ajg a.neg A c (gV a.m) a.e w h (vD _);rw[jD]at this;exact this
theorem ajk(a:Dy)(A:Option Addr)(c:Nat)(w:World)(h:Sl w A c (gV a.m))(ha:uF a):
 Calls Tryz.prog 97 #[DV a A c] w fun e w'=>e = .returned (.int .i64 a.iu)/\iy w w':=by
 have:=ajj a.neg A c (gV a.m) a.e w h (vD _) (by have:=ha.len;omega) (by have:=ha.lo;omega) (by have:=ha.hi;omega);rw[jD]at this;exact this
open Go.RowKit Fp
theorem GL(d:Dy)(A:Option Addr)(c:Nat)(w:World)(hs:Sl w A c (gV d.m))(hl:(gV d.m).length<=100000000)(kR:-10000000<=d.e)(kx:d.e<=10000000):
 Calls Tryz.prog 78 #[DV d A c] w (sW w (kB d) (mJ d)):=by
 by_cases hd:mQ d
 .rw [AW hd,GO hd];exact Qm d A c w hs hl kR kx hd
 .rw [KC hd,GN hd];exact aa5 d A c w hs hl kR kx hd
theorem Kx(s:Bool)(m:Nat)(e:Int){n:Nat}(hm:(gV m).length<=n):(gV (canon s m e).m).length<=n/\e<=max (canon s m e).e e/\((canon s m e).e<=max 0 (e+32*n))/\min 0 e<=(canon s m e).e:=by
 unfold canon;by_cases h0:m=0
 .rw [aR h0];simp only[ni]
  exact⟨bL _,ae,ae,ae⟩
 .rw [aQ h0]
  have h1:jO m<32*n:=by
   have h1:=Di h0;have h2:=uh hm;rw[nF]at h2;exact(gM (ag:1<2)).1 (bQ h1 h2)
  exact⟨aX (lX (bw _ _)) hm,ae,by simp only;omega,by simp only;omega⟩
theorem Cj(s:Bool)(m:Nat)(e:Int)(A:Option Addr)(c:Nat)(w:World)(hs:Sl w A c (gV m))(hl:(gV m).length<=256)(kR:-1000000<=e)(kx:e<=1000000)(kp:Tb w):
 Calls Tryz.prog 79 #[.bool s,.slice A (gV m).length c,.int .i64 e] w (tI w (canon s m e)):=by
 have:=G4 s A c (gV m) e w hs ae (by have:=oH (gV m);unfold lV at this;omega) kR kx kp;rw[jD]at this;exact this
theorem Nb{m:Nat}(h:m=0):(((gV m).length:Int)==0)=true:=by rw[h,ni];rfl
theorem Jc{m:Nat}(h:m≠0):(((gV m).length:Int)==0)=false:=by
 refine aJ ?_;have:gV m≠[]:=fun e=>h (Uj.1 e)
 have:=dY.2 this;omega
theorem abR(a b:Dy)(A B:Option Addr)(c d:Nat)(w:World)(_hs:Sl w A c (gV a.m))(hr:Sl w B d (gV b.m))(kp:Tb w)(hb:b.ia)(h0:a.m=0):
 Calls Tryz.prog 190 #[DV a A c,DV b B d] w (sW w (kB (iI a b)) (mJ (iI a b))):=by
 have yA:iI a b=b:=by unfold iI;rw[aR h0]
 rw[yA,AW hb.range,GO hb.range];have hl:=hb.len;obtain⟨kR,kx⟩:=hb.exp;have HC:=Lib.hid (fun w (h:Sl w B d (gV b.m)) (ht:Tb w)=>Cj b.neg b.m b.e B d w h hl ae ae ht);rw[hb.canon.Ch]at HC;have n0:=Nb h0;clear yA h0;have hE:=((iy.alloc w (.cells #[.bool b.neg,.slice B ((gV b.m).length) d,.int .i64 b.e] 31)).trans (iy.alloc (w.alloc (.cells #[.bool b.neg,.slice B ((gV b.m).length) d,.int .i64 b.e] 31)) (.cells #[.bool b.neg,.slice B ((gV b.m).length) d,.int .i64 b.e] 31))).trans (iy.alloc ((w.alloc (.cells #[.bool b.neg,.slice B ((gV b.m).length) d,.int .i64 b.e] 31)).alloc (.cells #[.bool b.neg,.slice B ((gV b.m).length) d,.int .i64 b.e] 31)) (.cells #[.bool false,.slice none 0 0,.int .i64 0] 31));have b1:=((ji.pz (W:=w) (g:=w.heap.size) aj b.neg B ((gV b.m).length) d b.e).alloc (.cells #[.bool b.neg,.slice B ((gV b.m).length) d,.int .i64 b.e] 31)).alloc (.cells #[.bool false,.slice none 0 0,.int .i64 0] 31);have b2:=(ji.pz (W:=(w.alloc (.cells #[.bool b.neg,.slice B ((gV b.m).length) d,.int .i64 b.e] 31))) (g:=w.heap.size+1) aj b.neg B ((gV b.m).length) d b.e).alloc (.cells #[.bool false,.slice none 0 0,.int .i64 0] 31);have b3:=ji.pz (W:=((w.alloc (.cells #[.bool b.neg,.slice B ((gV b.m).length) d,.int .i64 b.e] 31)).alloc (.cells #[.bool b.neg,.slice B ((gV b.m).length) d,.int .i64 b.e] 31))) (g:=w.heap.size+2) aj false none 0 0 0;replace hr:=hr.below hE;replace kp:=kp.below hE;go_enter Tryz.func190,Tryz.ntmps190;go_wp2_with fail
 (with_reducible refine(HC.out _ hr kp).mono ?_)
 rintro r w1 ⟨A_h4,c_h4,rfl,h4,hb⟩;replace hE:=hE.trans hb;replace hr:=hr.below hb;replace kp:=kp.below hb;replace b1:=b1.ext hb;replace b2:=b2.ext hb;replace b3:=b3.ext hb;clear hb;have Ge:=b3.c0;have yb30:=b3.fr 0;have Gf:=b3.c1;have yb31:=b3.fr 1;have Gg:=b3.c2;have yb32:=b3.fr 2;go_wp2;exact uP (d:=b) rfl rfl rfl rfl (b3.set _ _ _ _ _) rfl (b3.qw h4 _ _ _ _ _) (ji.ql hE ae _ _ _ _ _)
theorem abS(a b:Dy)(A B:Option Addr)(c d:Nat)(w:World)(hs:Sl w A c (gV a.m))(kp:Tb w)(ha:a.ia)(h1:a.m≠0)(h0:b.m=0):
 Calls Tryz.prog 190 #[DV a A c,DV b B d] w (sW w (kB (iI a b)) (mJ (iI a b))):=by
 have yA:iI a b=a:=by unfold iI;rw[aQ h1,aR h0]
 rw[yA,AW ha.range,GO ha.range];have hl:=ha.len;obtain⟨kR,kx⟩:=ha.exp;have HC:=Lib.hid (fun w (h:Sl w A c (gV a.m)) (ht:Tb w)=>Cj a.neg a.m a.e A c w h hl ae ae ht);rw[ha.canon.Ch]at HC;have n0:=Nb h0;have n1:=Jc h1;clear yA h0 h1;have hE:=((iy.alloc w (.cells #[.bool a.neg,.slice A ((gV a.m).length) c,.int .i64 a.e] 31)).trans (iy.alloc (w.alloc (.cells #[.bool a.neg,.slice A ((gV a.m).length) c,.int .i64 a.e] 31)) (.cells #[.bool b.neg,.slice B ((gV b.m).length) d,.int .i64 b.e] 31))).trans (iy.alloc ((w.alloc (.cells #[.bool a.neg,.slice A ((gV a.m).length) c,.int .i64 a.e] 31)).alloc (.cells #[.bool b.neg,.slice B ((gV b.m).length) d,.int .i64 b.e] 31)) (.cells #[.bool false,.slice none 0 0,.int .i64 0] 31));have b1:=((ji.pz (W:=w) (g:=w.heap.size) aj a.neg A ((gV a.m).length) c a.e).alloc (.cells #[.bool b.neg,.slice B ((gV b.m).length) d,.int .i64 b.e] 31)).alloc (.cells #[.bool false,.slice none 0 0,.int .i64 0] 31);have b2:=(ji.pz (W:=(w.alloc (.cells #[.bool a.neg,.slice A ((gV a.m).length) c,.int .i64 a.e] 31))) (g:=w.heap.size+1) aj b.neg B ((gV b.m).length) d b.e).alloc (.cells #[.bool false,.slice none 0 0,.int .i64 0] 31);have b3:=ji.pz (W:=((w.alloc (.cells #[.bool a.neg,.slice A ((gV a.m).length) c,.int .i64 a.e] 31)).alloc (.cells #[.bool b.neg,.slice B ((gV b.m).length) d,.int .i64 b.e] 31))) (g:=w.heap.size+2) aj false none 0 0 0;replace hs:=hs.below hE;replace kp:=kp.below hE;go_enter Tryz.func190,Tryz.ntmps190;go_wp2_with fail
 (with_reducible refine(HC.out _ hs kp).mono ?_)
 rintro r w1 ⟨A_h4,c_h4,rfl,h4,hb⟩;replace hE:=hE.trans hb;replace hs:=hs.below hb;replace kp:=kp.below hb;replace b1:=b1.ext hb;replace b2:=b2.ext hb;replace b3:=b3.ext hb;clear hb;have Ge:=b3.c0;have yb30:=b3.fr 0;have Gf:=b3.c1;have yb31:=b3.fr 1;have Gg:=b3.c2;have yb32:=b3.fr 2;go_wp2;exact uP (d:=a) rfl rfl rfl rfl (b3.set _ _ _ _ _) rfl (b3.qw h4 _ _ _ _ _) (ji.ql hE ae _ _ _ _ _)
theorem KS(a:Dy)(A:Option Addr)(c:Nat)(w:World)(h:Sl w A c (gV a.m))(ha:a.ia):
 Calls Tryz.prog 130 #[DV a A c] w fun e w'=>e = .returned (.int .i64 a.iu)/\iy w w':=by
 have:=KR a.neg A c (gV a.m) a.e w h ha.vQ;rw[jD]at this;exact this
def O5(L:List Nat)(w:World)(v:Value):Prop:=∃ A c,v = .slice A L.length c/\Sl w A c L
theorem amh{fn:Func}{p t:Tmp}(h:fn.results = #[.cell p 31,.tmp t]){a:Act}{w W:World}{k:Int}{g:Nat}
 (hp:a.tmps.getD p undef = .pointer (some ⟨g,0,none⟩)) (ht:a.tmps.getD t undef = .int .i64 k) (hd:a.defers=[]) (hb:ji W g false none 0 0 0) (he:iy w W):
 bodyPost Tryz.prog fn (sW w jA k) .ret a W:=
 uP (d:=jA) h hp ht hd hb (by rw[show jA.m=0 from rfl,ni];rfl) (by rw[show jA.m=0 from rfl,ni];exact Sl.nil _) he
set_option maxRecDepth 100000 in
set_option maxHeartbeats 8000000 in
theorem abT(a b:Dy)(A B:Option Addr)(c d:Nat)(w:World)(hs:Sl w A c (gV a.m))(hr:Sl w B d (gV b.m))(kp:Tb w)(ha:a.ia)(hb:b.ia)(a0:a.m≠0)(b0:b.m≠0):
  Calls Tryz.prog 190 #[DV a A c,DV b B d] w (sW w (kB (iI a b)) (mJ (iI a b))):=by
 have n1:=Jc a0;have n2:=Jc b0;have la:=ha.len;have lb:=hb.len;obtain⟨ea1,ea2⟩:=ha.exp;obtain⟨eb1,eb2⟩:=hb.exp;obtain⟨k,hk⟩:∃ k,min a.e b.e=k:=⟨_,rfl⟩
 have SV:k<=a.e:= ae ;have SW:k<=b.e:= ae ;have oh:-16384<=k:= ae ;have sO:k<=16384:= ae ;have HTa:=Lib.hid (fun w (h:Sl w A c (gV a.m))=>KS a A c w h ha);have HTb:=Lib.hid (fun w (h:Sl w B d (gV b.m))=>KS b B d w h hb);have HBIG:=Lib.hid (fun h1 h2=>akK ha hb a0 b0 hk h1 h2);have HFIT:=Lib.hid (fun h=>akM ha hb a0 b0 hk h);have HS1:=Lib.hid (fun(h:a.neg=b.neg)=>show iI a b=canon a.neg (a.m*2^(a.e-k).toNat+b.m*2^(b.e-k).toNat) k from by
  have:=XG (s:=a.neg) a0 b0 hk;rw[<-this,show(⟨a.neg,b.m,b.e⟩:Dy)=b by rw[h]])
 have HS2:=Lib.hid (fun(h:a.neg≠b.neg) (pX:b.m*2^(b.e-k).toNat<=a.m*2^(a.e-k).toNat)=>XE a0 b0 hk h pX);have HS3:=Lib.hid (fun(h:a.neg≠b.neg) (pX:a.m*2^(a.e-k).toNat<b.m*2^(b.e-k).toNat)=>XF a0 b0 hk h pX);have CU:-16384<=a.iu/\a.iu<=16384:=by unfold Dy.iu;rw[aQ a0];have:=ha.XY a0;omega
 have htb:-16384<=b.iu/\b.iu<=16384:=by unfold Dy.iu;rw[aQ b0];have:=hb.XY b0;omega
 obtain⟨amu,amv⟩:=CU;obtain⟨amw,amx⟩:=htb;obtain⟨S,hS⟩:∃ S,iI a b=S:=⟨_,rfl⟩
 rw[hS]at HBIG HS1 ⊢;have HS2:=Lib.hid (fun h h'=>hS▸HS2.out h h');have HS3:=Lib.hid (fun h h'=>hS▸HS3.out h h');have HXa:=Lib.hid (fun w (h:Sl w A c (gV a.m)) (hf:(gV (a.m*2^(a.e-k).toNat)).length<=256)=>Jz A c (gV a.m) (a.e-k) w h la ae ae (by rw[jD];exact hf));have HXb:=Lib.hid (fun w (h:Sl w B d (gV b.m)) (hf:(gV (b.m*2^(b.e-k).toNat)).length<=256)=>Jz B d (gV b.m) (b.e-k) w h lb ae ae (by rw[jD];exact hf));rw[jD]at HXa HXb;generalize a.m*2^(a.e-k).toNat=x at *
 generalize b.m*2^(b.e-k).toNat=y at *
 generalize a.iu=ta at *
 generalize b.iu=tb at *
 obtain⟨mx,S3⟩:∃ mx,max ta tb=mx:=⟨_,rfl⟩
 have Ij:-16384<=mx/\mx<=16384:= ae ;obtain⟨Ij,u7⟩:=Ij;rw[S3]at HBIG HFIT;have aea:=kp;have ua:=hs;have wu:=hr;clear a0 b0 hS;have hE:=((iy.alloc w (.cells #[.bool a.neg,.slice A ((gV a.m).length) c,.int .i64 a.e] 31)).trans (iy.alloc (w.alloc (.cells #[.bool a.neg,.slice A ((gV a.m).length) c,.int .i64 a.e] 31)) (.cells #[.bool b.neg,.slice B ((gV b.m).length) d,.int .i64 b.e] 31))).trans (iy.alloc ((w.alloc (.cells #[.bool a.neg,.slice A ((gV a.m).length) c,.int .i64 a.e] 31)).alloc (.cells #[.bool b.neg,.slice B ((gV b.m).length) d,.int .i64 b.e] 31)) (.cells #[.bool false,.slice none 0 0,.int .i64 0] 31));have b1:=((ji.pz (W:=w) (g:=w.heap.size) aj a.neg A ((gV a.m).length) c a.e).alloc (.cells #[.bool b.neg,.slice B ((gV b.m).length) d,.int .i64 b.e] 31)).alloc (.cells #[.bool false,.slice none 0 0,.int .i64 0] 31);have b2:=(ji.pz (W:=(w.alloc (.cells #[.bool a.neg,.slice A ((gV a.m).length) c,.int .i64 a.e] 31))) (g:=w.heap.size+1) aj b.neg B ((gV b.m).length) d b.e).alloc (.cells #[.bool false,.slice none 0 0,.int .i64 0] 31);have b3:=ji.pz (W:=((w.alloc (.cells #[.bool a.neg,.slice A ((gV a.m).length) c,.int .i64 a.e] 31)).alloc (.cells #[.bool b.neg,.slice B ((gV b.m).length) d,.int .i64 b.e] 31))) (g:=w.heap.size+2) aj false none 0 0 0;replace hs:=hs.below hE;replace hr:=hr.below hE;replace kp:=kp.below hE;go_enter Tryz.func190,Tryz.ntmps190;have nO:=b1.c0;have nP:=b1.c1;have nQ:=b1.c2
 have sA:=b2.c0;have sB:=b2.c1;have sC:=b2.c2;go_upto_region 6 with fail;clear nO nP nQ sA sB sC;obtain⟨W1,hW⟩:∃ W,(((w.alloc (.cells #[.bool a.neg,.slice A ((gV a.m).length) c,.int .i64 a.e] 31)).alloc (.cells #[.bool b.neg,.slice B ((gV b.m).length) d,.int .i64 b.e] 31)).alloc (.cells #[.bool false,.slice none 0 0,.int .i64 0] 31))=W:=⟨_,rfl⟩
 rw[hW]at hs hr kp b1 b2 b3 hE ⊢;clear hW;go_cut [7,8] (fun s0 s1 wx=>s0=(.int .i64 ta)/\s1=(.int .i64 tb)/\iy W1 wx)
 case first=>
  have b1':=b1.drew;have b2':=b2.drew;have mK:=hs.drew;have rP:=hr.drew;go_region_held3 (fun w'=>w'.cell? ⟨w.heap.size,0,none⟩=some (.bool a.neg)/\w'.cell? ⟨w.heap.size,1,none⟩=some (.slice A ((gV a.m).length) c)/\w'.cell? ⟨w.heap.size,2,none⟩=some (.int .i64 a.e)/\w'.cell? ⟨w.heap.size+1,0,none⟩=some (.bool b.neg)/\w'.cell? ⟨w.heap.size+1,1,none⟩=some (.slice B ((gV b.m).length) d)/\w'.cell? ⟨w.heap.size+1,2,none⟩=some (.int .i64 b.e))
   (first|with_reducible exact⟨(b1').c0,(b1').c1,(b1').c2,(b2').c0,(b2').c1,(b2').c2⟩|with_reducible exact⟨(b1'.ext jI).c0,(b1'.ext jI).c1,(b1'.ext jI).c2,(b2'.ext jI).c0,(b2'.ext jI).c1,(b2'.ext jI).c2⟩|with_reducible exact⟨(b1'.ext jc).c0,(b1'.ext jc).c1,(b1'.ext jc).c2,(b2'.ext jc).c0,(b2'.ext jc).c1,(b2'.ext jc).c2⟩|with_reducible exact⟨(b1'.ext (jI.trans jc)).c0,(b1'.ext (jI.trans jc)).c1,(b1'.ext (jI.trans jc)).c2,(b2'.ext (jI.trans jc)).c0,(b2'.ext (jI.trans jc)).c1,(b2'.ext (jI.trans jc)).c2⟩|with_reducible exact⟨(b1'.ext (jc.trans jI)).c0,(b1'.ext (jc.trans jI)).c1,(b1'.ext (jc.trans jI)).c2,(b2'.ext (jc.trans jI)).c0,(b2'.ext (jc.trans jI)).c1,(b2'.ext (jc.trans jI)).c2⟩)
   (first
    | (go_at_call_of 130 (Value.agg #[.bool a.neg,.slice A (gV a.m).length c,.int .i64 a.e]);(first|(with_reducible refine(HTa.out _ mK).mono ?_)|(with_reducible refine(HTa.out _ (mK.below jc)).mono ?_));rintro r wx0 ⟨rfl,jI⟩)
    | (go_at_call_of 130 (Value.agg #[.bool b.neg,.slice B (gV b.m).length d,.int .i64 b.e]);(first|(with_reducible refine(HTb.out _ rP).mono ?_)|(with_reducible refine(HTb.out _ (rP.below jI)).mono ?_));rintro r wx1 ⟨rfl,jc⟩))
  all_goals (go_wp2_with fail;go_meet;(first|exact⟨rfl,rfl,(iy.drew _).trans (jI.trans jc)⟩|exact⟨rfl,rfl,(iy.drew _).trans (jc.trans jI)⟩))
 obtain⟨rfl,rfl,hb⟩:=hcut;replace hE:=hE.trans hb;replace hs:=hs.below hb;replace hr:=hr.below hb;replace kp:=kp.below hb;replace b1:=b1.ext hb;replace b2:=b2.ext hb;replace b3:=b3.ext hb;clear hb;go_upto_region 7 with fail;go_cut [63] (fun s wx=>s = .bool (decide (4097<mx-k/\(1<ta-tb\/1<tb-ta)))/\wx=wc)
 case first=>
  by_cases c1:4097<mx-k
  .by_cases c2:1<ta-tb
   .go_wp2
    go_meet;exact⟨congrArg Value.bool (aS ⟨c1,.inl c2⟩).symm,rfl⟩
   .by_cases c3:1<tb-ta
    .go_wp2
     go_meet;exact⟨congrArg Value.bool (aS ⟨c1,.inr c3⟩).symm,rfl⟩
    .go_wp2
     go_meet;exact⟨congrArg Value.bool (aT ae).symm,rfl⟩
  .go_wp2
   go_meet;exact⟨congrArg Value.bool (aT ae).symm,rfl⟩
 obtain⟨rfl,hwc⟩:=hcut;subst hwc;by_cases hB:4097<mx-k/\(1<ta-tb\/1<tb-ta)
 .have hd:decide (4097<mx-k/\(1<ta-tb\/1<tb-ta))=true:=aS hB
  have mw:=Lib.hid (HBIG.out hB.1 hB.2);rw[hd];clear hB hd;have Ge:=b3.c0;have yb30:=b3.fr 0;have Gf:=b3.c1;have yb31:=b3.fr 1;have Gg:=b3.c2;have yb32:=b3.fr 2;go_wp2;rw[KC mw.out,GN mw.out];exact amh rfl rfl rfl rfl (b3.set _ _ _ _ _) (ji.ql hE ae _ _ _ _ _)
 .have hd:decide (4097<mx-k/\(1<ta-tb\/1<tb-ta))=false:=aT hB
  obtain⟨wB,Mp⟩:=HFIT.out hB;have HXY:=Lib.hid (EZ (k:=129) (aX (ZZ wB Mp) ag));have q8:=EZ (k:=129) (aX wB ag);have IF:=EZ (k:=129) (aX Mp ag);have HXa2:=Lib.hid (fun w h=>HXa.out w h ae);have HXb2:=Lib.hid (fun w h=>HXb.out w h ae);rw[hd];clear hB hd wB Mp S3 HBIG HFIT HXa HXb HTa HTb;have Mn:IntKind.i64.wrap (a.e-k)=a.e-k:=i64_in _ ae ae;have hwf:IntKind.i64.wrap (b.e-k)=b.e-k:=i64_in _ ae ae;have nO:=b1.c0;have nP:=b1.c1;have nQ:=b1.c2;have sA:=b2.c0;have sB:=b2.c1;have sC:=b2.c2;go_upto_region 9 with fail;clear nO nP nQ sA sB sC;go_cut [9,10] (fun s0 s1 wx=>O5 ((gV x)) wx s0/\O5 ((gV y)) wx s1/\iy wc wx)
  case first=>
   have b1':=b1.drew;have b2':=b2.drew;have mK:=hs.drew;have rP:=hr.drew;go_region_held3 (fun w'=>w'.cell? ⟨w.heap.size,0,none⟩=some (.bool a.neg)/\w'.cell? ⟨w.heap.size,1,none⟩=some (.slice A ((gV a.m).length) c)/\w'.cell? ⟨w.heap.size,2,none⟩=some (.int .i64 a.e)/\w'.cell? ⟨w.heap.size+1,0,none⟩=some (.bool b.neg)/\w'.cell? ⟨w.heap.size+1,1,none⟩=some (.slice B ((gV b.m).length) d)/\w'.cell? ⟨w.heap.size+1,2,none⟩=some (.int .i64 b.e))
    (first|with_reducible exact⟨(b1').c0,(b1').c1,(b1').c2,(b2').c0,(b2').c1,(b2').c2⟩|with_reducible exact⟨(b1'.ext jI).c0,(b1'.ext jI).c1,(b1'.ext jI).c2,(b2'.ext jI).c0,(b2'.ext jI).c1,(b2'.ext jI).c2⟩|with_reducible exact⟨(b1'.ext jc).c0,(b1'.ext jc).c1,(b1'.ext jc).c2,(b2'.ext jc).c0,(b2'.ext jc).c1,(b2'.ext jc).c2⟩|with_reducible exact⟨(b1'.ext (jI.trans jc)).c0,(b1'.ext (jI.trans jc)).c1,(b1'.ext (jI.trans jc)).c2,(b2'.ext (jI.trans jc)).c0,(b2'.ext (jI.trans jc)).c1,(b2'.ext (jI.trans jc)).c2⟩|with_reducible exact⟨(b1'.ext (jc.trans jI)).c0,(b1'.ext (jc.trans jI)).c1,(b1'.ext (jc.trans jI)).c2,(b2'.ext (jc.trans jI)).c0,(b2'.ext (jc.trans jI)).c1,(b2'.ext (jc.trans jI)).c2⟩)
    (first
     | (go_at_call_of 132 (Value.slice A (gV a.m).length c);(first|(with_reducible refine(HXa2.out _ mK).mono ?_)|(with_reducible refine(HXa2.out _ (mK.below jc)).mono ?_));rintro r wx0 ⟨A0,c0,rfl,pM,jI⟩)
     | (go_at_call_of 132 (Value.slice B (gV b.m).length d);(first|(with_reducible refine(HXb2.out _ rP).mono ?_)|(with_reducible refine(HXb2.out _ (rP.below jI)).mono ?_));rintro r wx1 ⟨A1,c1,rfl,rN,jc⟩))
   all_goals (go_wp2_with fail;go_meet;(first|exact⟨⟨_,_,rfl,pM.below jc⟩,⟨_,_,rfl,rN⟩,(iy.drew _).trans (jI.trans jc)⟩|exact⟨⟨_,_,rfl,pM⟩,⟨_,_,rfl,rN.below jI⟩,(iy.drew _).trans (jc.trans jI)⟩))
  obtain⟨⟨A_hx,c_hx,rfl,hx⟩,⟨A_hy,c_hy,rfl,hy⟩,hb⟩:=hcut;replace hE:=hE.trans hb;replace hs:=hs.below hb;replace hr:=hr.below hb;replace kp:=kp.below hb;replace b1:=b1.ext hb;replace b2:=b2.ext hb;replace b3:=b3.ext hb;clear hb;have HA:=Lib.hid (fun w A c B d (h:Sl w A c (gV x)) (k:Sl w B d (gV y))=>UU A B c d (gV x) (gV y) w h k ae ae (by rw[jD,jD];exact aX HXY.out ag));rw[jD,jD]at HA;by_cases hn:a.neg=b.neg
  .have e1:(a.neg==b.neg)=true:=by rw[hn];exact beq_self_eq_true _
   have hD:=Lib.hid (HS1.out hn);have HO:=Lib.hid (fun w A c (h:Sl w A c (gV (x+y))) (ht:Tb w)=>Cj a.neg (x+y) k A c w h (aX HXY.out ag) ae ae ht);clear hn;have Bc:=Kx a.neg (x+y) k HXY.out;have HK:=Lib.hid (fun w A c (h:Sl w A c (gV (canon a.neg (x+y) k).m))=>GL (canon a.neg (x+y) k) A c w h ae ae ae);generalize canon a.neg (x+y) k=D at *
   clear Bc HS1 HS2 HS3;have nO:=b1.c0;have nP:=b1.c1;have nQ:=b1.c2;have sA:=b2.c0;have sB:=b2.c1;have sC:=b2.c2;go_wp2_with fail
   (with_reducible refine(HA.out _ _ _ _ _ hx hy).mono ?_)
   rintro r w2 ⟨A3,c3,rfl,h3,hb⟩;clear nO nP nQ sA sB sC;replace hE:=hE.trans hb;replace hs:=hs.below hb;replace hr:=hr.below hb;replace kp:=kp.below hb;replace hx:=hx.below hb;replace hy:=hy.below hb;replace b1:=b1.ext hb;replace b2:=b2.ext hb;replace b3:=b3.ext hb;clear hb;have nO:=b1.c0;have nP:=b1.c1;have nQ:=b1.c2;go_wp2_with fail
   (with_reducible refine(HO.out _ _ _ h3 kp).mono ?_)
   rintro r w3 ⟨A_h4,c_h4,rfl,h4,hb⟩;clear nO nP nQ;replace hE:=hE.trans hb;replace hs:=hs.below hb;replace hr:=hr.below hb;replace kp:=kp.below hb;replace hx:=hx.below hb;replace hy:=hy.below hb;replace h3:=h3.below hb;replace b1:=b1.ext hb;replace b2:=b2.ext hb;replace b3:=b3.ext hb;clear hb;have nO:=b1.c0;have nP:=b1.c1;have nQ:=b1.c2;go_wp2_with fail
   (with_reducible refine(HK.out _ _ _ h4).mono ?_)
   rintro r w4 ⟨A_h5,c_h5,rfl,h5,hb⟩;clear nO nP nQ;replace hE:=hE.trans hb;replace hs:=hs.below hb;replace hr:=hr.below hb;replace kp:=kp.below hb;replace hx:=hx.below hb;replace hy:=hy.below hb;replace h3:=h3.below hb;replace h4:=h4.below hb;replace b1:=b1.ext hb;replace b2:=b2.ext hb;replace b3:=b3.ext hb;clear hb;have Ge:=b3.c0;have yb30:=b3.fr 0;have Gf:=b3.c1;have yb31:=b3.fr 1;have Gg:=b3.c2;have yb32:=b3.fr 2;go_wp2;rw[hD.out];exact uP (d:=(kB D)) rfl rfl rfl rfl (b3.set _ _ _ _ _) rfl (b3.qw h5 _ _ _ _ _) (ji.ql hE ae _ _ _ _ _)
  .have e1:(a.neg==b.neg)=false:=aJ hn
   have HC:=Lib.hid (fun w A c B d (h:Sl w A c (gV x)) (k:Sl w B d (gV y))=>Ff A B c d (gV x) (gV y) w h k ae ae);rw[jD,jD]at HC;by_cases iD:x<y
   .have hD:=Lib.hid (HS3.out hn iD)
    have d0:decide (kg x y<0)=true:=by unfold kg;rw[aR iD];rfl
    have HSb:=Lib.hid (fun w A c B d (h:Sl w A c (gV y)) (k:Sl w B d (gV x))=>M9 A B c d (gV y) (gV x) w h k ae ae (by rw[jD,jD];omega));rw[jD,jD]at HSb;have CZ:=aX (lX (dj y x)) IF;have HO:=Lib.hid (fun w A c (h:Sl w A c (gV (y-x))) (ht:Tb w)=>Cj b.neg (y-x) k A c w h ae ae ae ht);have Bc:=Kx b.neg (y-x) k CZ;have HK:=Lib.hid (fun w A c (h:Sl w A c (gV (canon b.neg (y-x) k).m))=>GL (canon b.neg (y-x) k) A c w h ae ae ae);generalize canon b.neg (y-x) k=D at *
    generalize kg x y=q at *
    clear Bc HS1 HS2 HS3 hn iD CZ HA;have nO:=b1.c0;have nP:=b1.c1;have nQ:=b1.c2;have sA:=b2.c0;have sB:=b2.c1;have sC:=b2.c2;go_wp2_with fail
    (with_reducible refine(HC.out _ _ _ _ _ hx hy).mono ?_)
    rintro r w2 ⟨rfl,hb⟩;clear nO nP nQ sA sB sC;replace hE:=hE.trans hb;replace hs:=hs.below hb;replace hr:=hr.below hb;replace kp:=kp.below hb;replace hx:=hx.below hb;replace hy:=hy.below hb;replace b1:=b1.ext hb;replace b2:=b2.ext hb;replace b3:=b3.ext hb;clear hb;have Bh:w.heap.size<=w.heap.size:=aU _;have nO:=b1.c0;have nP:=b1.c1;have nQ:=b1.c2;have sA:=b2.c0;have sB:=b2.c1;have sC:=b2.c2;have fb0:=b1.fr 0;have fb1:=b1.fr 1;have fb2:=b1.fr 2;have hx:=b1.qw hx b.neg b.e (gV b.m).length d B;have hy:=b1.qw hy b.neg b.e (gV b.m).length d B;have hE:=ji.ql hE (aU _) b.neg B (gV b.m).length d b.e;have b3:=b3.wX (g':=w.heap.size) ae (.bool b.neg) (.slice B (gV b.m).length d) (.int .i64 b.e);have b1:=b1.set b.neg B (gV b.m).length d b.e;have kp:=aea.below hE;clear hs hr b2;go_wp2_with fail
    (with_reducible refine(HSb.out _ _ _ _ _ hy hx).mono ?_)
    rintro r w3 ⟨A3,c3,rfl,h3,hb⟩;clear nO nP nQ sA sB sC;replace hE:=hE.trans hb;replace kp:=kp.below hb;replace hx:=hx.below hb;replace hy:=hy.below hb;replace b1:=b1.ext hb;replace b3:=b3.ext hb;clear hb;have nO:=b1.c0;have nP:=b1.c1;have nQ:=b1.c2;go_wp2_with fail
    (with_reducible refine(HO.out _ _ _ h3 kp).mono ?_)
    rintro r w4 ⟨A_h4,c_h4,rfl,h4,hb⟩;clear nO nP nQ;replace hE:=hE.trans hb;replace kp:=kp.below hb;replace hx:=hx.below hb;replace hy:=hy.below hb;replace h3:=h3.below hb;replace b1:=b1.ext hb;replace b3:=b3.ext hb;clear hb;have nO:=b1.c0;have nP:=b1.c1;have nQ:=b1.c2;go_wp2_with fail
    (with_reducible refine(HK.out _ _ _ h4).mono ?_)
    rintro r w5 ⟨A_h5,c_h5,rfl,h5,hb⟩;clear nO nP nQ;replace hE:=hE.trans hb;replace kp:=kp.below hb;replace hx:=hx.below hb;replace hy:=hy.below hb;replace h3:=h3.below hb;replace h4:=h4.below hb;replace b1:=b1.ext hb;replace b3:=b3.ext hb;clear hb;have Ge:=b3.c0;have yb30:=b3.fr 0;have Gf:=b3.c1;have yb31:=b3.fr 1;have Gg:=b3.c2;have yb32:=b3.fr 2;go_wp2;rw[hD.out];exact uP (d:=(kB D)) rfl rfl rfl rfl (b3.set _ _ _ _ _) rfl (b3.qw h5 _ _ _ _ _) (ji.ql hE ae _ _ _ _ _)
   .have hD:=Lib.hid (HS2.out hn ae)
    have d0:decide (kg x y<0)=false:=by unfold kg;rw[aQ iD];split<;>rfl
    have HSb:=Lib.hid (fun w A c B d (h:Sl w A c (gV x)) (k:Sl w B d (gV y))=>M9 A B c d (gV x) (gV y) w h k ae ae (by rw[jD,jD];omega));rw[jD,jD]at HSb;have CZ:=aX (lX (dj x y)) q8;have HO:=Lib.hid (fun w A c (h:Sl w A c (gV (x-y))) (ht:Tb w)=>Cj a.neg (x-y) k A c w h ae ae ae ht);have Bc:=Kx a.neg (x-y) k CZ;have HK:=Lib.hid (fun w A c (h:Sl w A c (gV (canon a.neg (x-y) k).m))=>GL (canon a.neg (x-y) k) A c w h ae ae ae);generalize canon a.neg (x-y) k=D at *
    generalize kg x y=q at *
    clear Bc HS1 HS2 HS3 hn iD CZ HA;have nO:=b1.c0;have nP:=b1.c1;have nQ:=b1.c2;have sA:=b2.c0;have sB:=b2.c1;have sC:=b2.c2;go_wp2_with fail
    (with_reducible refine(HC.out _ _ _ _ _ hx hy).mono ?_)
    rintro r w2 ⟨rfl,hb⟩;clear nO nP nQ sA sB sC;replace hE:=hE.trans hb;replace hs:=hs.below hb;replace hr:=hr.below hb;replace kp:=kp.below hb;replace hx:=hx.below hb;replace hy:=hy.below hb;replace b1:=b1.ext hb;replace b2:=b2.ext hb;replace b3:=b3.ext hb;clear hb;go_wp2_with fail
    (with_reducible refine(HSb.out _ _ _ _ _ hx hy).mono ?_)
    rintro r w3 ⟨A3,c3,rfl,h3,hb⟩;replace hE:=hE.trans hb;replace hs:=hs.below hb;replace hr:=hr.below hb;replace kp:=kp.below hb;replace hx:=hx.below hb;replace hy:=hy.below hb;replace b1:=b1.ext hb;replace b2:=b2.ext hb;replace b3:=b3.ext hb;clear hb;have nO:=b1.c0;have nP:=b1.c1;have nQ:=b1.c2;go_wp2_with fail
    (with_reducible refine(HO.out _ _ _ h3 kp).mono ?_)
    rintro r w4 ⟨A_h4,c_h4,rfl,h4,hb⟩;clear nO nP nQ;replace hE:=hE.trans hb;replace hs:=hs.below hb;replace hr:=hr.below hb;replace kp:=kp.below hb;replace hx:=hx.below hb;replace hy:=hy.below hb;replace h3:=h3.below hb;replace b1:=b1.ext hb;replace b2:=b2.ext hb;replace b3:=b3.ext hb;clear hb;have nO:=b1.c0;have nP:=b1.c1;have nQ:=b1.c2;go_wp2_with fail
    (with_reducible refine(HK.out _ _ _ h4).mono ?_)
    rintro r w5 ⟨A_h5,c_h5,rfl,h5,hb⟩;clear nO nP nQ;replace hE:=hE.trans hb;replace hs:=hs.below hb;replace hr:=hr.below hb;replace kp:=kp.below hb;replace hx:=hx.below hb;replace hy:=hy.below hb;replace h3:=h3.below hb;replace h4:=h4.below hb;replace b1:=b1.ext hb;replace b2:=b2.ext hb;replace b3:=b3.ext hb;clear hb;have Ge:=b3.c0;have yb30:=b3.fr 0;have Gf:=b3.c1;have yb31:=b3.fr 1;have Gg:=b3.c2;have yb32:=b3.fr 2;go_wp2;rw[hD.out];exact uP (d:=(kB D)) rfl rfl rfl rfl (b3.set _ _ _ _ _) rfl (b3.qw h5 _ _ _ _ _) (ji.ql hE ae _ _ _ _ _)
theorem Q6(a b:Dy)(A B:Option Addr)(c d:Nat)(w:World)(hs:Sl w A c (gV a.m))(hr:Sl w B d (gV b.m))(kp:Tb w)(ha:a.ia)(hb:b.ia):
 Calls Tryz.prog 190 #[DV a A c,DV b B d] w (sW w (kB (iI a b)) (mJ (iI a b))):=by
 by_cases a0:a.m=0
 .exact abR a b A B c d w hs hr kp hb a0
 .by_cases b0:b.m=0
  .exact abS a b A B c d w hs kp ha a0 b0
  .exact abT a b A B c d w hs hr kp ha hb a0 b0
theorem Q3(a : Dy)(A : Option Addr)(c : Nat)(w : World)(hs : Sl w A c (gV a.m))(ha : a.ia):
    Calls Tryz.prog 191 #[DV a A c] w (tI w (iF a)) := by
  have HV := Lib.hid (fun w (h : Sl w A c (gV a.m)) => G6 a A c w h ha);have hl := ha.len;by_cases h0 : a.m=0
  . have hz : Hid (iF a=jA) := by
      show iF a=jA;obtain⟨s,m,e⟩ := a;rcases ha.canon with⟨h1,h2,h3⟩|h1
      . simp only at h1 h2 h3;subst h1 h2 h3;rfl
      . simp only at h0 h1;omega
    have n0 := Nb h0;clear h0;have hE := (iy.alloc w (.cells #[.bool a.neg,.slice A ((gV a.m).length) c,.int .i64 a.e] 31)).trans (iy.alloc (w.alloc (.cells #[.bool a.neg,.slice A ((gV a.m).length) c,.int .i64 a.e] 31)) (.cells #[.bool false,.slice none 0 0,.int .i64 0] 31));have b1 := (ji.pz (W := w) (g := w.heap.size) aj a.neg A ((gV a.m).length) c a.e).alloc (.cells #[.bool false,.slice none 0 0,.int .i64 0] 31);have b2 := ji.pz (W := (w.alloc (.cells #[.bool a.neg,.slice A ((gV a.m).length) c,.int .i64 a.e] 31))) (g := w.heap.size+1) aj false none 0 0 0;replace hs := hs.below hE;go_enter Tryz.func191,Tryz.ntmps191;go_wp2_with fail
    (with_reducible refine(HV.out _ hs).mono ?_)
    rintro r w1 ⟨rfl,hb⟩;replace hE := hE.trans hb;replace hs := hs.below hb;replace b1 := b1.ext hb;replace b2 := b2.ext hb;clear hb;have nO := b1.c0;have nP := b1.c1;have nQ := b1.c2;have sA := b2.c0;have yb20 := b2.fr 0;have sB := b2.c1;have yb21 := b2.fr 1;have sC := b2.c2;have yb22 := b2.fr 2;go_wp2;rw[hz.out];exact sI (d := jA) rfl rfl rfl (b2.set _ _ _ _ _) (by rw[show jA.m=0 from rfl,ni];rfl) (by rw[show jA.m=0 from rfl,ni];exact Sl.nil _) (ji.ql hE ae _ _ _ _ _)
  . have n0 := Jc h0
    have HN := Lib.hid (show iF a=⟨!a.neg,a.m,a.e⟩by unfold iF;simp[h0]);have HC := Lib.hid (fun w (h : Sl w A c (gV a.m)) => KE A c (gV a.m) w h ae);clear h0;have hE := (iy.alloc w (.cells #[.bool a.neg,.slice A ((gV a.m).length) c,.int .i64 a.e] 31)).trans (iy.alloc (w.alloc (.cells #[.bool a.neg,.slice A ((gV a.m).length) c,.int .i64 a.e] 31)) (.cells #[.bool false,.slice none 0 0,.int .i64 0] 31));have b1 := (ji.pz (W := w) (g := w.heap.size) aj a.neg A ((gV a.m).length) c a.e).alloc (.cells #[.bool false,.slice none 0 0,.int .i64 0] 31);have b2 := ji.pz (W := (w.alloc (.cells #[.bool a.neg,.slice A ((gV a.m).length) c,.int .i64 a.e] 31))) (g := w.heap.size+1) aj false none 0 0 0;replace hs := hs.below hE;go_enter Tryz.func191,Tryz.ntmps191;go_wp2_with fail
    (with_reducible refine(HV.out _ hs).mono ?_)
    rintro r w1 ⟨rfl,hb⟩;replace hE := hE.trans hb;replace hs := hs.below hb;replace b1 := b1.ext hb;replace b2 := b2.ext hb;clear hb;have nO := b1.c0;have nP := b1.c1;have nQ := b1.c2;clear nO nP nQ;have nO := b1.c0;have nP := b1.c1;have nQ := b1.c2;go_wp2_with fail;clear nO nP nQ;replace hs := hs.drew;replace b1 := b1.drew;replace b2 := b2.drew;replace hE := hE.trans (iy.drew _);go_region_held3 (fun w' => w'.cell? ⟨w.heap.size,0,none⟩=some (.bool a.neg)/\w'.cell? ⟨w.heap.size,1,none⟩=some (.slice A ((gV a.m).length) c)/\w'.cell? ⟨w.heap.size,2,none⟩=some (.int .i64 a.e))
      (first|with_reducible exact⟨(b1).c0,(b1).c1,(b1).c2⟩|with_reducible exact⟨(b1.ext jI).c0,(b1.ext jI).c1,(b1.ext jI).c2⟩|with_reducible exact⟨((b1.ext jI).wX (g' := w.heap.size+1) ae _ _ _).c0,((b1.ext jI).wX (g' := w.heap.size+1) ae _ _ _).c1,((b1.ext jI).wX (g' := w.heap.size+1) ae _ _ _).c2⟩)
      (first
        | (go_at_call 129
           (with_reducible refine(HC.out _ hs).mono ?_)
           rintro r wx0 ⟨A_h4,c_h4,rfl,h4,jI⟩;have bz := b2.ext jI;have z0 := bz.c0;have z1 := bz.c1;have z2 := bz.c2;have y0 := bz.fr 0;have y1 := bz.fr 1;have y2 := bz.fr 2))
    replace hE := hE.trans jI;replace hs := hs.below jI;replace b1 := b1.ext jI;replace b2 := b2.ext jI;go_wp2;rw[HN.out];exact sI (d := ⟨!a.neg,a.m,a.e⟩) rfl rfl rfl (bz.set _ _ _ _ _) rfl (bz.qw h4 _ _ _ _ _) (ji.ql hE ae _ _ _ _ _)
theorem abQ(a b : Dy)(A B : Option Addr)(c d : Nat)(w : World)(hs : Sl w A c (gV a.m))(hr : Sl w B d (gV b.m))(kp : Tb w)(ha : a.ia)(hb : b.ia):
    Calls Tryz.prog 156 #[DV a A c,DV b B d] w (sW w (kB (iI a (iF b))) (mJ (iI a (iF b)))) := by
  have HVa := Lib.hid (fun w (h : Sl w A c (gV a.m)) => G6 a A c w h ha);have HVb := Lib.hid (fun w (h : Sl w B d (gV b.m)) => G6 b B d w h hb);have HN := Lib.hid (fun w (h : Sl w B d (gV b.m)) => Q3 b B d w h hb);have HS := Lib.hid (fun w B d (h : Sl w A c (gV a.m)) (k : Sl w B d (gV (iF b).m)) (ht : Tb w) => Q6 a (iF b) A B c d w h k ht ha (qt hb));generalize mJ (iI a (iF b))=E at *
  generalize kB (iI a (iF b))=D at *
  generalize iF b=nb at *
  have hE := ((iy.alloc w (.cells #[.bool a.neg,.slice A ((gV a.m).length) c,.int .i64 a.e] 31)).trans (iy.alloc (w.alloc (.cells #[.bool a.neg,.slice A ((gV a.m).length) c,.int .i64 a.e] 31)) (.cells #[.bool b.neg,.slice B ((gV b.m).length) d,.int .i64 b.e] 31))).trans (iy.alloc ((w.alloc (.cells #[.bool a.neg,.slice A ((gV a.m).length) c,.int .i64 a.e] 31)).alloc (.cells #[.bool b.neg,.slice B ((gV b.m).length) d,.int .i64 b.e] 31)) (.cells #[.bool false,.slice none 0 0,.int .i64 0] 31));have b1 := ((ji.pz (W := w) (g := w.heap.size) aj a.neg A ((gV a.m).length) c a.e).alloc (.cells #[.bool b.neg,.slice B ((gV b.m).length) d,.int .i64 b.e] 31)).alloc (.cells #[.bool false,.slice none 0 0,.int .i64 0] 31);have b2 := (ji.pz (W := (w.alloc (.cells #[.bool a.neg,.slice A ((gV a.m).length) c,.int .i64 a.e] 31))) (g := w.heap.size+1) aj b.neg B ((gV b.m).length) d b.e).alloc (.cells #[.bool false,.slice none 0 0,.int .i64 0] 31);have b3 := ji.pz (W := ((w.alloc (.cells #[.bool a.neg,.slice A ((gV a.m).length) c,.int .i64 a.e] 31)).alloc (.cells #[.bool b.neg,.slice B ((gV b.m).length) d,.int .i64 b.e] 31))) (g := w.heap.size+2) aj false none 0 0 0;replace hs := hs.below hE;replace hr := hr.below hE;replace kp := kp.below hE;go_enter Tryz.func156,Tryz.ntmps156;go_wp2_with fail
  (with_reducible refine(HVa.out _ hs).mono ?_)
  rintro r w1 ⟨rfl,hb⟩;replace hE := hE.trans hb;replace hs := hs.below hb;replace hr := hr.below hb;replace kp := kp.below hb;replace b1 := b1.ext hb;replace b2 := b2.ext hb;replace b3 := b3.ext hb;clear hb;have nO := b1.c0;have nP := b1.c1;have nQ := b1.c2;have sA := b2.c0;have sB := b2.c1;have sC := b2.c2;go_wp2_with fail
  (with_reducible refine(HVb.out _ hr).mono ?_)
  rintro r w2 ⟨rfl,hb⟩;clear nO nP nQ sA sB sC;replace hE := hE.trans hb;replace hs := hs.below hb;replace hr := hr.below hb;replace kp := kp.below hb;replace b1 := b1.ext hb;replace b2 := b2.ext hb;replace b3 := b3.ext hb;clear hb;have nO := b1.c0;have nP := b1.c1;have nQ := b1.c2;have sA := b2.c0;have sB := b2.c1;have sC := b2.c2;go_wp2_with fail;clear nO nP nQ sA sB sC;replace hs := hs.drew;replace hr := hr.drew;replace kp := kp.drew;replace b1 := b1.drew;replace b2 := b2.drew;replace b3 := b3.drew;replace hE := hE.trans (iy.drew _);go_region_held3 (fun w' => w'.cell? ⟨w.heap.size,0,none⟩=some (.bool a.neg)/\w'.cell? ⟨w.heap.size,1,none⟩=some (.slice A ((gV a.m).length) c)/\w'.cell? ⟨w.heap.size,2,none⟩=some (.int .i64 a.e)/\w'.cell? ⟨w.heap.size+1,0,none⟩=some (.bool b.neg)/\w'.cell? ⟨w.heap.size+1,1,none⟩=some (.slice B ((gV b.m).length) d)/\w'.cell? ⟨w.heap.size+1,2,none⟩=some (.int .i64 b.e))
    (first|with_reducible exact⟨(b1).c0,(b1).c1,(b1).c2,(b2).c0,(b2).c1,(b2).c2⟩|with_reducible exact⟨(b1.ext jI).c0,(b1.ext jI).c1,(b1.ext jI).c2,(b2.ext jI).c0,(b2.ext jI).c1,(b2.ext jI).c2⟩|with_reducible exact⟨(b1.ext (jI.trans jc)).c0,(b1.ext (jI.trans jc)).c1,(b1.ext (jI.trans jc)).c2,(b2.ext (jI.trans jc)).c0,(b2.ext (jI.trans jc)).c1,(b2.ext (jI.trans jc)).c2⟩|with_reducible exact⟨((b1.ext (jI.trans jc)).wX (g' := w.heap.size+2) ae _ _ _).c0,((b1.ext (jI.trans jc)).wX (g' := w.heap.size+2) ae _ _ _).c1,((b1.ext (jI.trans jc)).wX (g' := w.heap.size+2) ae _ _ _).c2,((b2.ext (jI.trans jc)).wX (g' := w.heap.size+2) ae _ _ _).c0,((b2.ext (jI.trans jc)).wX (g' := w.heap.size+2) ae _ _ _).c1,((b2.ext (jI.trans jc)).wX (g' := w.heap.size+2) ae _ _ _).c2⟩)
    (first
      | (go_at_call 191
         (with_reducible refine(HN.out _ hr).mono ?_)
         rintro r wx0 ⟨A_h4,c_h4,rfl,h4,jI⟩)
      | (go_at_call 190
         (with_reducible refine(HS.out _ _ _ (hs.below jI) h4 (kp.below jI)).mono ?_)
         rintro r wx1 ⟨A_h5,c_h5,rfl,h5,jc⟩;have bz := b3.ext (jI.trans jc);have z0 := bz.c0;have z1 := bz.c1;have z2 := bz.c2;have y0 := bz.fr 0;have y1 := bz.fr 1;have y2 := bz.fr 2))
  replace h4 := h4.below jc;replace hE := hE.trans (jI.trans jc);replace hs := hs.below (jI.trans jc);replace hr := hr.below (jI.trans jc);replace kp := kp.below (jI.trans jc);replace b1 := b1.ext (jI.trans jc);replace b2 := b2.ext (jI.trans jc);replace b3 := b3.ext (jI.trans jc);go_wp2;exact uP (d := D) rfl rfl rfl rfl (bz.set _ _ _ _ _) rfl (bz.qw h5 _ _ _ _ _) (ji.ql hE ae _ _ _ _ _)
open Go.RowKit Fp Pu
section
variable {f:FuncId} {L M:List Nat} {jV:E}
theorem Fu(hk:iC L)(hc:∀ (vs:Array Value) (w:World),(callFunc f vs).run Tryz.prog w = .ok (.enter f vs) w)
 {R:Option Addr->Nat->World->Ending->World->Prop} (H:∀ A c w,Sl w A c L->Tb w->Calls Tryz.prog f #[.slice A L.length c] w (R A c w))
 (hR:∀ (A:Option Addr) (c:Nat) (B:Nat->Prop) w e w',Sl w A c L->(∀ b,B b->b<w.heap.size/\oJ w b)->R A c w e w'->∃ v,e = .returned v/\Below w.heap.size w w'/\iG B (fun _=>True) w' jV v):gU f [gX L] jV:=by
 refine⟨hc,fun w B vs hK hB hr=>?_⟩;obtain⟨v1,vs,rfl,h1,hr⟩:=hr.lY;obtain rfl:=hr.qh;obtain⟨A,c,rfl,s1⟩:=uw hk h1;exact(H A c w s1 hK).mono fun e w' h=>hR A c B w e w' s1 hB h
theorem Fv(hk:iC L){n:Int}(hc:∀ (vs:Array Value) (w:World),(callFunc f vs).run Tryz.prog w = .ok (.enter f vs) w)
 {R:Option Addr->Nat->World->Ending->World->Prop} (H:∀ A c w,Sl w A c L->Tb w->Calls Tryz.prog f #[.slice A L.length c,.int .i64 n] w (R A c w))
 (hR:∀ (A:Option Addr) (c:Nat) (B:Nat->Prop) w e w',Sl w A c L->(∀ b,B b->b<w.heap.size/\oJ w b)->R A c w e w'->∃ v,e = .returned v/\Below w.heap.size w w'/\iG B (fun _=>True) w' jV v):gU f [gX L,iP n] jV:=by
 refine⟨hc,fun w B vs hK hB hr=>?_⟩;obtain⟨v1,vs,rfl,h1,hr⟩:=hr.lY;obtain⟨v2,vs,rfl,h2,hr⟩:=hr.lY;obtain rfl:=hr.qh;obtain rfl:=iG.kK h2;obtain⟨A,c,rfl,s1⟩:=uw hk h1;exact(H A c w s1 hK).mono fun e w' h=>hR A c B w e w' s1 hB h
theorem As(hk:iC L)(hm:iC M)(hc:∀ (vs:Array Value) (w:World),(callFunc f vs).run Tryz.prog w = .ok (.enter f vs) w)
 {R:World->Ending->World->Prop} (H:∀ A c B d w,Sl w A c L->Sl w B d M->Tb w->Calls Tryz.prog f #[.slice A L.length c,.slice B M.length d] w (R w))
 (hR:∀ (B:Nat->Prop) w e w',(∀ b,B b->b<w.heap.size/\oJ w b)->R w e w'->∃ v,e = .returned v/\Below w.heap.size w w'/\iG B (fun _=>True) w' jV v):gU f [gX L,gX M] jV:=by
 refine⟨hc,fun w B vs hK hB hr=>?_⟩;obtain⟨v1,vs,rfl,h1,hr⟩:=hr.lY;obtain⟨v2,vs,rfl,h2,hr⟩:=hr.lY;obtain rfl:=hr.qh;obtain⟨A,c,rfl,s1⟩:=uw hk h1;obtain⟨A',d,rfl,s2⟩:=uw hm h2;exact(H A c A' d w s1 s2 hK).mono fun e w' h=>hR B w e w' hB h
end
theorem FN{L:List Nat}{n:Int}(B:Nat->Prop)(w:World)(e:Ending)(w':World)(hB:∀ b,B b->b<w.heap.size/\oJ w b)(h:B9 w L n e w'):∃ v,e = .returned v/\Below w.heap.size w w'/\iG B (fun _=>True) w' (.iw [gX L,iP n]) v:=
 let⟨_,_,h1,h2,h3⟩:=h
 ⟨_,h1,h3,kr.iw (.cons (xF hB h3 h2) (.cons (.v _) (.nil _ _ _)))⟩
theorem rl{L:List Nat}(B:Nat->Prop)(w:World)(e:Ending)(w':World)(hB:∀ b,B b->b<w.heap.size/\oJ w b)(h:sX w L e w'):∃ v,e = .returned v/\Below w.heap.size w w'/\iG B (fun _=>True) w' (gX L) v:=
 let⟨_,_,h1,h2,h3⟩:=h
 ⟨_,h1,h3,xF hB h3 h2⟩
theorem tC(L:List Nat)(hk:iC L):gU 167 [gX L] (gX (ik L)):=
 Fu hk Tryz.call167 (fun A c w h _=>uj A c L w h) fun A c B w e w' h hB ⟨h1,h2⟩=>by subst h2;exact⟨_,h1,Below.refl _ _,xF hB (Below.refl _ _) h.tE⟩
theorem UX(L:List Nat)(hk:iC L)(hl:(ik L).length<=256):gU 165 [gX L] (.iw [gX (ik L),iP 0]):=
 Fu hk Tryz.call165 (fun A c w h _=>Fg A c L w h hl) fun A c B w e w' h hB r=>FN B w e w' hB r
theorem agF(L:List Nat)(hk:iC L)(hl:L.length<=100000):gU 194 [gX L] (iP (ib (val L))):=
 Fu hk Tryz.call194 (fun A c w h _=>UW A c L w h ae) fun A c B w e w' h hB ⟨h1,h2⟩=>by subst h2;exact⟨_,h1,Below.refl _ _,.v _⟩
theorem M5(L M:List Nat)(hk:iC L)(hm:iC M)(hl:L.length<=100000)(ns:M.length<=100000):gU 131 [gX L,gX M] (iP (kg (val L) (val M))):=
 As hk hm Tryz.call131 (fun A c B d w h k _=>Ff A B c d L M w h k ae ae) rv
theorem U2(m n:Nat)(hl:(gV m).length<=256)(hn:n<=65536)(hf:(gV (m*2^n)).length<=256):gU 168 [gX (gV m),iP (n:Int)] (.iw [gX (gV (m*2^n)),iP 0]):=
 Fv (kA m) Tryz.call168 (fun A c w h _=>U1 A c (gV m) n w h hl hn (by rw[jD];exact hf)) fun A c B w e w' h hB r=>by rw[jD]at r;exact FN B w e w' hB r
theorem M8(m n:Nat)(hl:(gV m).length<=256)(hn:n<=65536):gU 127 [gX (gV m),iP (n:Int)] (.iw [gX (gV (m/2^n)),iP 0]):=
 Fv (kA m) Tryz.call127 (fun A c w h _=>U4 A c (gV m) n w h hl hn) fun A c B w e w' h hB r=>by rw[jD]at r;exact FN B w e w' hB r
theorem IY(m n:Nat)(h1:(gV m).length<=256)(h2:(gV n).length<=256)(hf:(gV (m+n)).length<=256):gU 218 [gX (gV m),gX (gV n)] (.iw [gX (gV (m+n)),iP 0]):=by
 refine As (kA m) (kA n) Tryz.call218 (fun A c B d w h k _=>UU A B c d (gV m) (gV n) w h k h1 h2 (by rw[jD,jD];exact hf)) ?_;rw[jD,jD];exact FN
theorem Fi(m n:Nat)(h1:(gV m).length<=256)(h2:(gV n).length<=256)(hf:n<=m):gU 219 [gX (gV m),gX (gV n)] (.iw [gX (gV (m-n)),iP 0]):=by
 refine As (kA m) (kA n) Tryz.call219 (fun A c B d w h k _=>M9 A B c d (gV m) (gV n) w h k h1 h2 (by rw[jD,jD];exact hf)) ?_;rw[jD,jD];exact FN
theorem sr(m:Nat)(hl:(gV m).length<=100000):gU 194 [gX (gV m)] (iP (ib m)):=by
 have:=agF (gV m) (kA m) hl;rwa[jD]at this
theorem yM(m n:Nat)(hl:(gV m).length<=100000)(ns:(gV n).length<=100000):gU 131 [gX (gV m),gX (gV n)] (iP (kg m n)):=by
 have:=M5 (gV m) (gV n) (kA m) (kA n) hl ns;rwa[jD,jD]at this
theorem xW(a:Dy)(ha:a.ia):gU 191 [gY a] (gY (iF a)):=xz Tryz.call191 (fun A c w h _=>Q3 a A c w h ha) rd
theorem oD(a:Dy)(ha:a.ia):gU 130 [gY a] (iP a.iu):=xz Tryz.call130 (fun A c w h _=>KS a A c w h ha) rv
theorem A4(s:Bool)(m:Nat)(e:Int)(hl:(gV m).length<=256)(kR:-32768<=e)(kx:e<=32768)(hd:mQ (canon s m e)):gU 262 [bP s,gX (gV m),iP e] (.iw [gY (canon s m e),iP 0]):=by
 refine⟨Tryz.call262,fun w B vs hK hB hr=>?_⟩;obtain⟨v1,vs,rfl,h1,hr⟩:=hr.lY;obtain⟨v2,vs,rfl,h2,hr⟩:=hr.lY;obtain⟨v3,vs,rfl,h3,hr⟩:=hr.lY;obtain rfl:=hr.qh;obtain rfl:=iG.kK h1;obtain rfl:=iG.kK h3;obtain⟨A,c,rfl,s1⟩:=uw (kA m) h2;have:=agy s A c (gV m) e w s1 hl kR kx hK (by rw[jD];exact hd);rw[jD]at this;exact this.mono fun e w' h=>FK B w e w' hB h
theorem rY:E.le (.sl false 1 1 fun i j=>[E.v (.int .u32 1)].getD (i*1+j) (.v (.bool false))) (gX (gV 1)):=by
 have e1:gV 1=[1]:=by rw[yK ag,show 1/4294967296=0 by decide,ni]
 rw[e1];refine .sl fun i j hi hj=>?_
 obtain rfl:i=0:= ae ;obtain rfl:j=0:= ae ;exact⟨.refl _,rfl⟩
def jq(d:Dy):List E:=[bP d.neg,gX (gV d.m),iP d.e]
def np(l:List Dy):E:=.sl true l.length 3 fun i j=>(jq (l.getD i jA)).getD j .any
theorem KU(a:Dy):E.le (.sl true 1 3 fun i j=>[bP a.neg,gX (gV a.m),iP a.e].getD (i*3+j) (.v (.bool false))) (np [a]):=.sl fun i j hi hj=>by
 obtain rfl:i=0:= ae ;rcases j with _|_|_|j
 .exact ⟨.refl _,rfl⟩
 .exact ⟨.refl _,rfl⟩
 .exact ⟨.refl _,rfl⟩
 .omega
theorem vR(a b:Dy):E.le (.sl true 2 3 fun i j=>[bP a.neg,gX (gV a.m),iP a.e,bP b.neg,gX (gV b.m),iP b.e].getD (i*3+j) (.v (.bool false))) (np [a,b]):=.sl fun i j hi hj=>by
 obtain rfl|rfl:i=0\/i=1:= ae 
 all_goals
  rcases j with _|_|_|j
  .exact ⟨.refl _,rfl⟩
  .exact ⟨.refl _,rfl⟩
  .exact ⟨.refl _,rfl⟩
  .omega
theorem nx{n:Nat}(h:n≠0):((n:Int)==0)=false:= av 
theorem rX{n:Nat}(h:n=0):((n:Int)==0)=true:=by subst h;rfl
theorem BH{n:Nat}(h:n=0):((n:Int) != 0)=false:=by subst h;rfl
theorem Fh{n:Nat}(h:n≠0):((n:Int) != 0)=true:= av 
theorem qT{m:Nat}:(gV m).length=0↔m=0:=by rw[amN,Uj]
theorem pS{m:Nat}(h:m≠0):(gV m).length≠0:=fun q=>h (qT.1 q)
theorem Fp.Dy.ia.gV{d:Dy}(h:d.ia):(gV d.m).length<=256:=by have:=h.len;omega
end Go.Proofs.YtdgnpeddgdclhaaGreatDoor
namespace Go.Proofs.YtdgnpeddgdclhaaGreatDoor.Fp
structure Iv where
 lo:Dy
 hi:Dy
 all:Bool
def ie:Iv:=⟨jA,jA,true⟩
def Iv.ia(x:Iv):Prop:=(x.all=true/\x.lo=jA/\x.hi=jA)\/(x.all=false/\x.lo.ia/\x.hi.ia/\jo x.lo x.hi<=0)
theorem mj:ie.ia:=.inl ⟨rfl,rfl,rfl⟩
def kE(lo:Dy)(e:Int)(hi:Dy)(f:Int):Iv:=if e≠0\/f≠0 then ie else⟨lo,hi,false⟩
def kJ(a b:Dy):Dy:=canon (a.neg != b.neg) (a.m*b.m) (a.e+b.e)
def qJ(x:Iv):Iv:=if x.all then ie else⟨iF x.hi,iF x.lo,false⟩
def jk(x y:Iv)(p:Nat):Iv:=
 if x.all||y.all then ie else kE (jj (iI x.lo y.lo) p false) (jz (iI x.lo y.lo) p false) (jj (iI x.hi y.hi) p true) (jz (iI x.hi y.hi) p true)
def FV(x y:Iv)(p:Nat):Iv:=jk x (qJ y) p
theorem aa9{x y:Int}:vO x y<=0↔x<=y:=by
 unfold vO;split
 .constructor<;>intro<;>omega
 .split<;>constructor<;>intro<;>omega
theorem oj{a b:Dy}{k:Int}(ha:nJ a k)(hb:nJ b k):jo a b<=0↔a.num k<=b.num k:=by rw[Ck ha hb,aa9]
theorem le_trans{a b c:Dy}(h1:jo a b<=0)(h2:jo b c<=0):jo a c<=0:=by
 obtain⟨k,ka,kb,kc⟩:∃ k:Int,k<=a.e/\k<=b.e/\k<=c.e:=⟨min a.e (min b.e c.e),ae,ae,ae⟩
 rw[oj (.inr ka) (.inr kb)]at h1;rw[oj (.inr kb) (.inr kc)]at h2;rw[oj (.inr ka) (.inr kc)];omega
theorem yJ(a:Dy):jo a a<=0:=by rw[oj (k:=a.e) (.inr (bX _)) (.inr (bX _))];exact bX _
theorem afZ(a b:Dy):jo a b<=0\/jo b a<=0:=by
 obtain⟨k,ka,kb⟩:∃ k:Int,k<=a.e/\k<=b.e:=⟨min a.e b.e,ae,ae⟩
 rw[oj (.inr ka) (.inr kb),oj (.inr kb) (.inr ka)];omega
theorem agY{a b:Dy}(h:jo a b<=0):jo (iF b) (iF a)<=0:=by
 obtain⟨k,ka,kb⟩:∃ k:Int,k<=a.e/\k<=b.e:=⟨min a.e b.e,ae,ae⟩
 rw[oj (.inr ka) (.inr kb)]at h;rw[oj (k:=k) (DP (.inr kb)) (DP (.inr ka)),Fm,Fm];omega
theorem akN{a b c d:Dy}(h1:jo a b<=0)(h2:jo c d<=0):jo (iI a c) (iI b d)<=0:=by
 obtain⟨k,ka,kb,kc,kd⟩:∃ k:Int,k<=a.e/\k<=b.e/\k<=c.e/\k<=d.e:=⟨min (min a.e b.e) (min c.e d.e),ae,ae,ae,ae⟩
 rw[oj (.inr ka) (.inr kb)]at h1;rw[oj (.inr kc) (.inr kd)]at h2;rw[oj (k:=k) (Gp (.inr ka) (.inr kc)) (Gp (.inr kb) (.inr kd)),JF (.inr ka) (.inr kc),JF (.inr kb) (.inr kd)];omega
theorem GR(m:Nat)(e:Int)(p:Nat):
 kC m e false p false*2^ja m e p<=m/\m<=kC m e false p true*2^ja m e p:=by
 have h:=bT m (2^ja m e p);have hr:=bg m (aY (n:=ja m e p) (ag:0<2));unfold kC;simp only[bq,false_and,a6,bt,false_or,true_and];rw[a7];generalize m/2^ja m e p=q at *
 generalize 2^ja m e p=P at *
 refine⟨ae,?_⟩;rw[bK,a7 q];split
 .omega
 .omega
theorem Ky{s:Bool}{m n:Nat}{e f K:Int}(h1:K<=e)(h2:K<=f)(h:m*2^(e-K).toNat<=n*2^(f-K).toNat):
 (s=false->jo (canon s m e) (canon s n f)<=0)/\(s=true->jo (canon s n f) (canon s m e)<=0):=by
 constructor
 .rintro rfl
  rw[oj (zo h1) (zo h2),Vi h1,Vi h2]
  exact_mod_cast h
 .rintro rfl
  rw[oj (zo h2) (zo h1),BK h1,BK h2];simp only[bk];omega
theorem QI(neg:Bool)(m:Nat)(e:Int)(p:Nat)(up:Bool)(he:jG neg m e false p up=0)(_hp:1<=p):
 (up=true->jo (canon neg m e) (jP neg m e false p up)<=0)/\(up=false->jo (jP neg m e false p up) (canon neg m e)<=0):=by
 rw[D1]at he;obtain⟨c1,c2⟩:=GR m e p;have e1:(e-e).toNat=0:= ae ;have e2:(e+(ja m e p:Int)-e).toNat=ja m e p:= ae ;have hk:e<=e+(ja m e p:Int):= ae ;have A:=fun s:Bool=>Ky (s:=s) (m:=kC m e false p false) (n:=m) (e:=e+ja m e p) (f:=e) (K:=e) hk (bX _) (by rw[e1,e2];simpa using c1)
 have B:=fun s:Bool=>Ky (s:=s) (m:=m) (n:=kC m e false p true) (e:=e) (f:=e+ja m e p) (K:=e) (bX _) hk (by rw[e1,e2];simpa using c2)
 unfold jP;by_cases ho:lO m e false p (neg != up)=true
 .have hn:¬(neg != up)=true:=fun h=>he ⟨ho,h⟩
  rw[aR ho,aQ hn];have S5:neg=up:=by cases neg<;>cases up<;>simp at hn ⊢
  have j8:(neg != up)=false:=by rw[S5];simp
  rw[j8]at ho;unfold lO at ho;simp only[bA,bZ]at ho;obtain⟨o1,o2⟩:=ho;have hq:=rB o1;have pn:=mS o1;obtain⟨K,k1,k2⟩:∃ K:Int,K<=e/\K<=16384-p:=⟨min e (16384-p),ae,ae⟩
  have C:(2^p-1)*2^((16384:Int)-p-K).toNat<=m*2^(e-K).toNat:=by
   have h1:2^(ib (kC m e false p false)-1)*2^ja m e p<=m:=aX (bC _ hq) c1;have h2:=bC (2^(e-K).toNat) h1;rw[<-aV,<-aV]at h2;refine aX (bC _ (dj _ _)) (aX ?_ h2);rw[<-aV];exact bh ag ae 
  have D:=Ky (s:=neg) k2 k1 C;subst S5;cases neg
  .exact ⟨fun h=>absurd h ag,fun _=>D.1 rfl⟩
  .exact ⟨fun _=>D.2 rfl,fun h=>absurd h ag⟩
 .rw [aQ ho]
  cases neg<;>cases up
  .exact ⟨fun h=>absurd h ag,fun _=>(A false).1 rfl⟩
  .exact ⟨fun _=>(B false).1 rfl,fun h=>absurd h ag⟩
  .exact ⟨fun h=>absurd h ag,fun _=>(B true).2 rfl⟩
  .exact ⟨fun _=>(A true).2 rfl,fun h=>absurd h ag⟩
theorem WM{d:Dy}(hd:d.lI)(p:Nat)(hp:1<=p):
 (jz d p true=0->jo d (jj d p true)<=0)/\(jz d p false=0->jo (jj d p false) d<=0):=by
 have h:=hd.Ch;constructor
 .intro he
  have:=(QI d.neg d.m d.e p true he hp).1 rfl;rwa[h]at this
 .intro he
  have:=(QI d.neg d.m d.e p false he hp).2 rfl;rwa[h]at this
theorem r8{x y:Iv}(hx:x.ia)(hy:y.ia){p:Nat}(hp:1<=p)(ic:p<=4096):(jk x y p).ia:=by
 unfold jk;rcases hx with⟨h,_⟩|⟨h1,h2,h3,h4⟩
 .rw [h];exact mj
 .rcases hy with⟨h,_⟩|⟨k1,k2,k3,k4⟩
  .rw [h,h1];exact mj
  .rw [h1,k1]
   simp only[gq,bq,a6];unfold kE;by_cases he:jz (iI x.lo y.lo) p false≠0\/jz (iI x.hi y.hi) p true≠0
   .rw [aR he];exact mj
   .rw [aQ he]
    have e1:jz (iI x.lo y.lo) p false=0:= ae ;have e2:jz (iI x.hi y.hi) p true=0:= ae ;refine .inr ⟨rfl,mn _ _ _ _ _ _ hp ic,mn _ _ _ _ _ _ hp ic,?_⟩;exact le_trans ((WM (AV h2.canon k2.canon) p hp).2 e1) (le_trans (akN h4 k4) ((WM (AV h3.canon k3.canon) p hp).1 e2))
theorem Fj{x:Iv}(hx:x.ia):(qJ x).ia:=by
 unfold qJ;rcases hx with⟨h,_⟩|⟨h1,h2,h3,h4⟩
 .rw [aR h];exact mj
 .rw [h1]
  exact .inr ⟨rfl,qt h3,qt h2,agY h4⟩
def iV(a b:Dy):Dy:=if jo b a<0 then b else a
def iR(a b:Dy):Dy:=if 0<jo b a then b else a
theorem E5(a b:Dy):jo (iV a b) a<=0:=by
 unfold iV;split
 .omega
 .exact yJ a
theorem UK(a b:Dy):jo (iV a b) b<=0:=by
 unfold iV;split
 .exact yJ b
 .rcases afZ a b with h|h
  .exact h
  .have h0:jo b a=0:= ae 
   obtain⟨k,ka,kb⟩:∃ k:Int,k<=a.e/\k<=b.e:=⟨min a.e b.e,ae,ae⟩
   rw[Ck (k:=k) (.inr kb) (.inr ka)]at h0;rw[oj (.inr ka) (.inr kb)];unfold vO at h0;split at h0
   .omega
   .split at h0<;>omega
theorem wT(a b:Dy):jo a b = -jo b a:=by
 obtain⟨k,ka,kb⟩:∃ k:Int,k<=a.e/\k<=b.e:=⟨min a.e b.e,ae,ae⟩
 rw[Ck (k:=k) (.inr ka) (.inr kb),Ck (k:=k) (.inr kb) (.inr ka)];unfold vO;split<;>split<;>(try split)<;>omega
theorem Da(a b:Dy):jo a (iR a b)<=0:=by
 unfold iR;split
 .rw [wT];omega
 .exact yJ a
theorem UH(a b:Dy):jo b (iR a b)<=0:=by
 unfold iR;split
 .exact yJ b
 .omega
theorem qg{a b:Dy}(ha:a.ia)(hb:b.ia):(iV a b).ia:=by unfold iV;split;exact hb;exact ha
theorem oY{a b:Dy}(ha:a.ia)(hb:b.ia):(iR a b).ia:=by unfold iR;split;exact hb;exact ha
def mg(D : Dy->Dy->Bool->Dy)(E : Dy->Dy->Bool->Int)(x y : Iv) : Iv:=
 if(E x.lo y.lo false=0/\E x.lo y.lo true=0)/\(E x.lo y.hi false=0/\E x.lo y.hi true=0)/\(E x.hi y.lo false=0/\E x.hi y.lo true=0)/\(E x.hi y.hi false=0/\E x.hi y.hi true=0)then
  ⟨iV (iV (iV (D x.lo y.lo false) (D x.lo y.hi false)) (D x.hi y.lo false)) (D x.hi y.hi false),
   iR (iR (iR (D x.lo y.lo true) (D x.lo y.hi true)) (D x.hi y.lo true)) (D x.hi y.hi true),false⟩
 else ie
theorem RL{D:Dy->Dy->Bool->Dy}{E:Dy->Dy->Bool->Int}{x y:Iv}(hv:∀ a b up,(D a b up).ia)
 (hle:E x.lo y.lo false=0->E x.lo y.lo true=0->jo (D x.lo y.lo false) (D x.lo y.lo true)<=0):(mg D E x y).ia:=by
 unfold mg;split
 .rename_i h
  refine .inr ⟨rfl,qg (qg (qg (hv _ _ _) (hv _ _ _)) (hv _ _ _)) (hv _ _ _),oY (oY (oY (hv _ _ _) (hv _ _ _)) (hv _ _ _)) (hv _ _ _),?_⟩;refine le_trans (E5 _ _) (le_trans (E5 _ _) (le_trans (E5 _ _) (le_trans (hle h.1.1 h.1.2) ?_)));exact le_trans (Da _ _) (le_trans (Da _ _) (Da _ _))
 .exact mj
def iQ(x y:Iv)(p:Nat):Iv:=
 if x.all||y.all then ie else mg (fun a b up=>jj (kJ a b) p up) (fun a b up=>jz (kJ a b) p up) x y
theorem qU(x y:Iv){p:Nat}(hp:1<=p)(ic:p<=4096):(iQ x y p).ia:=by
 unfold iQ;split
 .exact mj
 .exact RL (fun _ _ _=>mn _ _ _ _ _ _ hp ic) (fun h1 h2=>QG _ _ _ _ _ h1 h2)
def kn(a b:Dy)(p:Nat)(g:Nat):Nat:=p+g+ib b.m-ib a.m
def kt(a b:Dy)(p:Nat)(up:Bool):Dy:=
 if a.m=0 then jA else jP (a.neg != b.neg) (a.m*2^kn a b p 2/b.m) (a.e-b.e-kn a b p 2) (decide (a.m*2^kn a b p 2%b.m≠0)) p up
def nd(a b:Dy)(p:Nat)(up:Bool):Int:=
 if a.m=0 then 0 else jG (a.neg != b.neg) (a.m*2^kn a b p 2/b.m) (a.e-b.e-kn a b p 2) (decide (a.m*2^kn a b p 2%b.m≠0)) p up
theorem KM{a b:Dy}(a0:a.m≠0)(b0:b.m≠0)(p g:Nat)(hg:2<=g):p<ib (a.m*2^kn a b p g/b.m):=by
 have h1:=rB a0;have h2:=oN b.m;have ha:=mS a0;have h3:2^p<=a.m*2^kn a b p g/b.m:=by
  rw[cL ae];refine aX (ca _ (cW h2)) (aX ?_ (bC _ h1));rw[<-aV,<-aV];exact bh ag (by unfold kn;omega)
 exact sk.2 h3
theorem abA{a b:Dy}(a0:a.m≠0)(b0:b.m≠0)(p:Nat)(up:Bool):
 jP (a.neg != b.neg) (a.m*2^kn a b p 3/b.m) (a.e-kn a b p 3-b.e) (decide (a.m*2^kn a b p 3%b.m≠0)) p up=kt a b p up /\
 jG (a.neg != b.neg) (a.m*2^kn a b p 3/b.m) (a.e-kn a b p 3-b.e) (decide (a.m*2^kn a b p 3%b.m≠0)) p up=nd a b p up:=by
 obtain⟨d,hd⟩:∃ d,kn a b p 3=kn a b p 2+d:=⟨kn a b p 3-kn a b p 2,by unfold kn;omega⟩
 have hb:=KM a0 b0 p 2 ag;unfold kt nd;rw[aQ a0,aQ a0,hd];generalize kn a b p 2=k at *
 have hB:0<b.m:= ae ;have hP:=aY (n:=d) (ag:0<2);have e1:a.m*2^(k+d)/b.m/2^d=a.m*2^k/b.m:=by
  rw[cz,aV,<-bc,Nat.mul_div_mul_right _ _ hP]
 have e2:(decide (a.m*2^(k+d)%b.m≠0)||decide (a.m*2^(k+d)/b.m%2^d≠0))=decide (a.m*2^k%b.m≠0):=by
  have h1:a.m*2^(k+d)%(b.m*2^d)=a.m*2^k%b.m*2^d:=by rw[aV,<-bc,Nat.mul_mod_mul_right]
  have h2:a.m*2^(k+d)%(b.m*2^d)=a.m*2^(k+d)%b.m+b.m*(a.m*2^(k+d)/b.m%2^d):=fJ;rw[h1]at h2;rw[cQ];simp only[fY,bZ];constructor
  .intro h h0
   rw[h0,ch]at h2;rcases h with h|h
   .omega
   .have:=eC hB (dB h)
    omega
  .intro h
   apply bE;intro hn;have n1:a.m*2^(k+d)%b.m=0:=by
    apply bE;intro h';exact hn (.inl h')
   have n2:a.m*2^(k+d)/b.m%2^d=0:=by
    apply bE;intro h';exact hn (.inr h')
   rw[n1,n2,cr]at h2;have:=eC (dB h) hP;omega
 have h:=GQ (N:=a.m*2^(k+d)/b.m) (E:=a.e-((k+d:Nat):Int)-b.e) (more:=decide (a.m*2^(k+d)%b.m≠0)) (d:=d) (p:=p) (a.neg != b.neg) up (by rw[e1];exact hb);rw[e1,e2,show a.e-((k+d:Nat):Int)-b.e+(d:Int)=a.e-b.e-(k:Int)by omega]at h;exact⟨h.1.symm,h.2.symm⟩
def lN(x:Iv):Int:=if x.all then 0 else if 0<x.lo.iJ then 1 else if x.hi.iJ<0 then -1 else 0
def jS(x y:Iv)(p:Nat):Iv:=
 if x.all||y.all||decide (lN y=0)then ie else mg (fun a b up=>kt a b p up) (fun a b up=>nd a b p up) x y
theorem vP(x y:Iv){p:Nat}(hp:1<=p)(ic:p<=4096):(jS x y p).ia:=by
 unfold jS;split
 .exact mj
 .refine RL (fun a b up=>?_) (fun h1 h2=>?_)
  .unfold kt;split
   .exact rD
   .exact mn _ _ _ _ _ _ hp ic
  .unfold kt nd at *
   split
   .exact yJ _
   .rename_i h
    rw[aQ h]at h1 h2;exact QG _ _ _ _ _ h1 h2
def k0(d:Dy):Dy:=⟨false,d.m,d.e⟩
theorem rI{d:Dy}(h:d.ia):(k0 d).ia:=by
 refine⟨?_,h.range⟩;rcases h.canon with⟨h1,_,h3⟩|h1
 .exact .inl ⟨h1,rfl,h3⟩
 .exact .inr h1
theorem YP(d:Dy)(k:Int):(k0 d).num k=(d.jQ k:Int):=by unfold Dy.num k0 Dy.jQ;simp
def my(x:Iv):Dy:=iR (k0 x.lo) (k0 x.hi)
def nj(x:Iv):Dy:=if lN x=0 then jA else iV (k0 x.lo) (k0 x.hi)
def iY(x:Iv):Iv:=if x.all then ie else⟨nj x,my x,false⟩
def mf(d:Dy):Iv:=⟨d,d,false⟩
theorem vt{d:Dy}(h:d.ia):(mf d).ia:=.inr ⟨rfl,h,h,yJ d⟩
theorem IT{x:Iv}(h1:x.lo.ia)(h2:x.hi.ia):(my x).ia:=oY (rI h1) (rI h2)
theorem DQ{x:Iv}(h:x.ia):(iY x).ia:=by
 unfold iY;rcases h with⟨h,_⟩|⟨h,h1,h2,_⟩
 .rw [h];exact mj
 .rw [h]
  have v1:=rI h1;have v2:=rI h2;refine .inr ⟨rfl,?_,IT h1 h2,?_⟩
  .show (nj x).ia
   unfold nj;split
   .exact rD
   .exact qg v1 v2
  .show jo (nj x) (my x)<=0
   unfold nj;split
   .refine le_trans (b:=k0 x.lo) ?_ (Da _ _)
    rw[oj (a:=jA) (b:=k0 x.lo) (k:=x.lo.e) (.inl rfl) (.inr (bX _)),vk rfl,YP];omega
   .exact le_trans (E5 _ _) (Da _ _)
def je(n:Int):Dy:=kV n 0
def jE(n:Int):Iv:=mf (je n)
def s8:Iv:=mf (canon false 1 (-1))
end Go.Proofs.YtdgnpeddgdclhaaGreatDoor.Fp
namespace Go.Proofs.YtdgnpeddgdclhaaGreatDoor
open Go.RowKit Fp Pu
def iZ(x:Iv):List E:=[bP x.lo.neg,gX (gV x.lo.m),iP x.lo.e,bP x.hi.neg,gX (gV x.hi.m),iP x.hi.e,bP x.all]
def gZ(x:Iv):E:=.agg (iZ x)
def ig(l:List Iv):E:=.sl true l.length 7 fun i j=>(iZ (l.getD i ie)).getD j .any
def qf(m:List (List Iv)):E:=.sl true m.length 1 fun i _=>ig (m.getD i [])
def pP(x y:Iv):Bool:=y.all||(!x.all&&(decide (jo y.lo x.lo<=0)&&decide (jo x.hi y.hi<=0)))
theorem Am:E.le (.v (.slice none 0 0)) (gX (gV 0)):=by
 have:gX (gV 0) = .sl false 0 1 fun i _=>.v (.int .u32 (((gV 0).getD i 0:Nat):Int)):=by unfold gX;rw[ni];rfl
 rw[this];exact .nil _ _ _
theorem Ga:E.le (.agg [bP false,.v (.slice none 0 0),iP 0,bP false,.v (.slice none 0 0),iP 0,bP true]) (gZ ie):=
 .agg (.cons (.refl _) (.cons Am (.cons (.refl _) (.cons (.refl _) (.cons Am (.cons (.refl _) (.cons (.refl _) .nil)))))))
open Go.RowKit Fp Pu
structure RD where
 neg:Bool
 L:List Nat
 e:Int
structure RI where
 lo:RD
 hi:RD
 all:Bool
def NO(d:RD):List E:=[bP d.neg,gX d.L,iP d.e]
def mr(d:RD):E:=.agg (NO d)
def yV(x:RI):List E:=[bP x.lo.neg,gX x.lo.L,iP x.lo.e,bP x.hi.neg,gX x.hi.L,iP x.hi.e,bP x.all]
def uq(x:RI):E:=.agg (yV x)
def Dx:RD:=⟨false,[],0⟩
def jt:RI:=⟨Dx,Dx,true⟩
def jW(l:List RI):E:=.sl true l.length 7 fun i j=>(yV (l.getD i jt)).getD j .any
structure RD.jg(d:RD):Prop where
 ok:iC d.L
 lo:-9223372036854775808<=d.e
 hi:d.e<=9223372036854775807
structure RI.jg(x:RI):Prop where
 lo:x.lo.jg
 hi:x.hi.jg
theorem W0:Dx.jg:=⟨iC.nil,ag,ag⟩
theorem WZ:jt.jg:=⟨W0,W0⟩
def RD.dy(d:RD):Dy:=⟨d.neg,val d.L,d.e⟩
def RD.Ok(d:RD):Prop:=oI d.neg d.L d.e
def RD.Zero(d:RD):Prop:=d.neg=false/\d.L=[]/\d.e=0
def RI.iv(x:RI):Iv:=⟨x.lo.dy,x.hi.dy,x.all⟩
def RI.Ok(x:RI):Prop:=(x.all=true/\x.lo.Zero/\x.hi.Zero)\/(x.all=false/\x.lo.Ok/\x.hi.Ok/\jo x.lo.dy x.hi.dy<=0)
def Fp.Dy.raw(d:Dy):RD:=⟨d.neg,gV d.m,d.e⟩
def Fp.Iv.raw(x:Iv):RI:=⟨x.lo.raw,x.hi.raw,x.all⟩
theorem RD.Ok.valid{d:RD}(h:d.Ok):d.dy.ia:=h.2.2
theorem RD.Ok.eq{d:RD}(h:d.Ok)(g:d.jg):d.dy.raw=d:=by
 obtain⟨n,L,e⟩:=d;show RD.mk n (gV (val L)) e=_;rw[<-oI.Eb h g.ok]
theorem RD.Zero.eq{d:RD}(h:d.Zero):d.dy=jA/\d.dy.raw=d:=by
 obtain⟨n,L,e⟩:=d;obtain⟨rfl,rfl,rfl⟩:=h;refine⟨rfl,?_⟩;show RD.mk false (gV 0) 0=_;rw[ni]
theorem RI.Ok.valid{x:RI}(h:x.Ok):x.iv.ia:=by
 rcases h with⟨h1,h2,h3⟩|⟨h1,h2,h3,h4⟩
 .exact .inl ⟨h1,h2.eq.1,h3.eq.1⟩
 .exact .inr ⟨h1,h2.valid,h3.valid,h4⟩
theorem RI.Ok.eq{x:RI}(h:x.Ok)(g:x.jg):x.iv.raw=x:=by
 obtain⟨lo,hi,a⟩:=x;rcases h with⟨h1,h2,h3⟩|⟨h1,h2,h3,h4⟩
 .show RI.mk lo.dy.raw hi.dy.raw a=_
  rw[h2.eq.2,h3.eq.2]
 .show RI.mk lo.dy.raw hi.dy.raw a=_
  rw[h2.eq g.lo,h3.eq g.hi]
theorem KO(d:Dy):mr d.raw=gY d:=rfl
theorem IL(x:Iv):uq x.raw=gZ x:=rfl
theorem Fp.Iv.ia.ki{x:Iv}(h:x.ia):x.lo.ia/\x.hi.ia:=by
 rcases h with⟨_,h2,h3⟩|⟨_,h2,h3,_⟩
 .rw [h2,h3];exact⟨rD,rD⟩
 .exact ⟨h2,h3⟩
theorem alY:ie.raw=jt:=by
 show RI.mk jA.raw jA.raw true=RI.mk Dx Dx true;have:jA.raw=Dx:=by show RD.mk false (gV 0) 0=_;rw[ni];rfl
 rw[this]
def AA(l:List Iv):List RI:=l.map Iv.raw
theorem ads(l:List Iv)(i:Nat):(AA l).getD i jt=(l.getD i ie).raw:=by
 unfold AA;rw[aW,aW,cj];cases l[i]? with
 |none=>exact alY.symm
 |some x=>rfl
theorem MK(l:List Iv):jW (AA l)=ig l:=by
 unfold jW ig;rw[show(AA l).length=l.length by simp[AA]];congr 1;funext i j;rw[ads];rfl
theorem A5(d:RD)(g:d.jg)(b:Bool)(hb:b=true↔d.Ok):gU 68 [mr d] (bP b):=by
 refine⟨Tryz.call68,fun w B vs hK hB hr=>?_⟩;obtain⟨v1,vs,rfl,h1,hr⟩:=hr.lY;obtain rfl:=hr.qh;obtain⟨us,rfl,q⟩:=iG.Cc (show iG _ _ w (.agg _) v1 from h1);obtain⟨u1,us,rfl,k1,q⟩:=q.lY;obtain⟨u2,us,rfl,k2,q⟩:=q.lY;obtain⟨u3,us,rfl,k3,q⟩:=q.lY;obtain rfl:=q.qh;obtain rfl:=iG.kK k1;obtain rfl:=iG.kK k3;obtain⟨A,c,rfl,hs⟩:=uw g.ok k2;exact(A6 d.neg A c d.L d.e w b hs g.lo g.hi hb).mono fun e w' h=>rv B w e w' hB h
theorem Jo(d:RD)(g:d.jg)(b:Bool)(hb:b=true↔d.Ok):gU 46 [mr d] (bP b):=by
 refine⟨Tryz.call46,fun w B vs hK hB hr=>?_⟩;obtain⟨v1,vs,rfl,h1,hr⟩:=hr.lY;obtain rfl:=hr.qh;obtain⟨us,rfl,q⟩:=iG.Cc (show iG _ _ w (.agg _) v1 from h1);obtain⟨u1,us,rfl,k1,q⟩:=q.lY;obtain⟨u2,us,rfl,k2,q⟩:=q.lY;obtain⟨u3,us,rfl,k3,q⟩:=q.lY;obtain rfl:=q.qh;obtain rfl:=iG.kK k1;obtain rfl:=iG.kK k3;obtain⟨A,c,rfl,hs⟩:=uw g.ok k2;exact(Jp d.neg A c d.L d.e w b hs g.lo g.hi hb).mono fun e w' h=>rv B w e w' hB h
theorem BI{a b:Nat}(h:a=b):((a:Int) != (b:Int))=false:=by simp[h]
theorem IZ{a b:Nat}(h:a=b):((a:Int)==(b:Int))=true:=by simp[h]
open Classical in
noncomputable def nm(x:RI):Bool:=decide x.Ok
theorem su{x:RI}:nm x=true↔x.Ok:=by unfold nm;simp
open Classical in
open Go.ChangeShapes Go.WideShapes Go.ChangeAt Go.RowKit Fp Pu
abbrev mW:Nat->Prop:=fun _=>False
theorem aaZ{W:World}{a:Addr}{v:Value}(h:W.cell? a=some v):a.spot=none:=by
 obtain⟨b,o,s⟩:=a;rcases s with _|q
 .rfl
 .exfalso
  unfold World.cell? at h;split at h<;>simp at h
theorem NU{W:World}{a:Addr}{len cap sz:Nat}{nl:Bool}(el:Nat->Nat->E)(hl:len<=cap)(hm:cap<=maxLen)(lK:0<sz)
 (h1:∀ i j,i<len->j<sz->(el i j).one=true/\(nl=true->(el i j).nk=true)/\(el i j).nr 2=true)
 (hx:∀ i,i<len->∃ cs,W.cells? 0 (a.add (i*sz)) sz=some cs/\∀ j,j<sz->∃ v,cs[j]? = some v/\iG mW mW W (el i j) v):
 iG mW mW W (.sl nl len sz el) (.slice (some a) len cap):=by
 have S2:cap<=9223372036854775807:=by simpa[maxLen]using hm
 have cellAt:∀ i j,i<len->j<sz->∃ v,W.cell? (a.add (i*sz+j))=some v/\iG mW mW W (el i j) v:=by
  intro i j hi hj;obtain⟨cs,h2,h3⟩:=hx i hi;obtain⟨v,h4,h5⟩:=h3 j hj;refine⟨v,?_,h5⟩;rw[<-Deep.add_add,(World.cells?_some h2).2.2 j hj,h4]
 by_cases h0:len=0
 .subst h0
  exact .sl nl 0 sz el _ cap (fun _ _=>.bool false) ae S2 (fun h=>by cases h) (fun i j hi=>absurd hi ae) (fun i j hi=>absurd hi ae) (fun i j hi=>absurd hi ae) (fun i j hi=>absurd hi ae)
 .obtain ⟨b,o,s⟩:=a
  have hs:s=none:=by
   obtain⟨v,h2,_⟩:=cellAt 0 0 ae lK;rw[ch,bW,show(⟨b,o,s⟩:Addr).add 0=⟨b,o,s⟩from rfl]at h2;exact aaZ h2
  subst hs;have cell2:∀ i j,∃ v:Value,i<len->j<sz->W.cell? ⟨b,o+(i*sz+j),none⟩=some v/\iG mW mW W (el i j) v:=by
   intro i j;by_cases hi:i<len
   .by_cases hj:j<sz
    .obtain ⟨v,h2,h3⟩:=cellAt i j hi hj
     rw[AP]at h2;exact⟨v,fun _ _=>⟨h2,h3⟩⟩
    .exact ⟨.bool false,fun _ h=>absurd h hj⟩
   .exact ⟨.bool false,fun h=>absurd h hi⟩
  let f:Nat->Nat->Value:=fun i j=>Classical.choose (cell2 i j)
  have hf:∀ i j,i<len->j<sz->W.cell? ⟨b,o+(i*sz+j),none⟩=some (f i j)/\iG mW mW W (el i j) (f i j):=fun i j=>cM (cell2 i j)
  refine .sl nl len sz el _ cap f hl S2 (fun h=>by cases h) (fun i j hi hj=>?_) (fun i j hi hj=>(h1 i j hi hj).2.2) (fun i j hi hj=>?_) (fun i j hi hj=>(hf i j hi hj).2)
  .exact ⟨(hf i j hi hj).2.one (h1 i j hi hj).1,fun q=>(hf i j hi hj).2.nk ((h1 i j hi hj).2.1 q)⟩
  .exact ⟨b,o,rfl,id,block_lt_of_cell (hf i j hi hj).1,(hf i j hi hj).1⟩
def OS(W:World)(d:RD)(cs:List Value):Prop:=d.jg/\cs.length=3/\∀ j,j<3->∃ v,cs[j]? = some v/\iG mW mW W ((NO d).getD j .any) v
def J0(W:World)(x:RI)(cs:List Value):Prop:=x.jg/\cs.length=7/\∀ j,j<7->∃ v,cs[j]? = some v/\iG mW mW W ((yV x).getD j .any) v
section
variable {H:Type} {enc:TypeId×Value->H} {W:World} {fuel:Nat} {cs:List Value} {x:DataW H×List MemPlace}
theorem Nq(h:DataW.trod enc Tryz.prog W 0 (fun _=>true) true fuel 31 cs=some x)(iD:∀ p ∈ x.2,p.block<W.heap.size):∃ d,OS W d cs:=by
 obtain⟨s,A,L,cap,e,rfl,tv,h1,h2⟩:=ahj h iD;refine⟨⟨s,L,e⟩,⟨tv.ok,h1,h2⟩,rfl,fun j hj=>?_⟩;rcases j with _|_|_|j
 .exact ⟨_,rfl,.v _⟩
 .exact ⟨_,rfl,xF (w:=W) (fun _ h=>h.elim) (.refl _) tv⟩
 .exact ⟨_,rfl,.v _⟩
 .omega
theorem ahn(h:DataW.trod enc Tryz.prog W 0 (fun _=>true) true fuel 41 cs=some x)(iD:∀ p ∈ x.2,p.block<W.heap.size):∃ d,J0 W d cs:=by
 obtain⟨xs,n,rfl,rfl,hl,ln,hf⟩:=DataW.trod_struct Tryz.underlying41 h;have hC:Tryz.prog.cellsOf 41=7:= ah ;have hD:Tryz.prog.cellsOf 31=3:= ah ;have hB:Tryz.prog.cellsOf 4=1:= ah ;rw[hC]at hl;obtain⟨c0,c1,c2,c3,c4,c5,c6,rfl⟩:=agj hl;have h0:=hf 0 _ rfl;have h1:=hf 1 _ rfl;have h2:=hf 2 _ rfl;simp only[eH,eI,dR]at h0 h1 h2;simp only[hD,hB,eJ,eK,ej,eN]at h0 h1 h2;rw[bd (by rw[ln];decide)]at h0 h1 h2;obtain⟨lo,g1,_,k1⟩:=Nq h0 (fun p hp=>iD p (eO.2 ⟨_,cw _,hp⟩));obtain⟨hi,g2,_,k2⟩:=Nq h1 (fun p hp=>iD p (eO.2 ⟨_,cw _,hp⟩));obtain⟨al,e2,_⟩:=DataW.trod_bool Tryz.underlying4 h2;simp at e2;subst e2;refine⟨⟨lo,hi,al⟩,⟨g1,g2⟩,rfl,fun j hj=>?_⟩;rcases j with _|_|_|_|_|_|_|j
 .exact k1 0 ag 
 .exact k1 1 ag 
 .exact k1 2 ag 
 .exact k2 0 ag 
 .exact k2 1 ag 
 .exact k2 2 ag 
 .exact ⟨_,rfl,.v _⟩
 .omega
theorem ajw(x:RI)(j:Nat)(hj:j<7):((yV x).getD j .any).one=true/\(((yV x).getD j .any).nk=true)/\((yV x).getD j .any).nr 2=true:=by
 rcases j with _|_|_|_|_|_|_|j
 all_goals first|exact⟨rfl,rfl,rfl⟩|omega
theorem Nr(h:DataW.trod enc Tryz.prog W 0 (fun _=>true) true fuel 26 cs=some x)(iD:∀ p ∈ x.2,p.block<W.heap.size):
  ∃ l v,cs=[v]/\(∀ y,y ∈ l->y.jg)/\iG mW mW W (jW l) v:=by
 have hC:Tryz.prog.cellsOf 41=7:= ah ;rcases Deep.open_slice Tryz.underlying26 h with⟨rfl,_⟩|⟨a,len,cap,m,n,D,Pl,rfl,hb,hl,hm,se,rfl,hx⟩
 .exact ⟨[],_,rfl,(fun y hy=>by cases hy),.sl true 0 7 _ none 0 (fun _ _=>.bool false) (aU _) ag (fun _=>rfl) (fun i j hi=>absurd hi (bj i)) (fun i j hi=>absurd hi (bj i)) (fun i j hi=>absurd hi (bj i)) (fun i j hi=>absurd hi (bj i))⟩
 .simp only[bk]at se
  subst se;have ex:∀ i,∃ y:RI,i<len->∃ cs',W.cells? 0 (a.add (i*7)) 7=some cs'/\J0 W y cs':=by
   intro i;by_cases hi:i<len
   .obtain ⟨cs',h1,h2⟩:=hx i ae 
    rw[hC]at h1;obtain⟨y,hy⟩:=ahn h2 (fun p hp=>iD p (List.mem_append_right _ (eO.2 ⟨i,bJ.2 ae,hp⟩)));exact⟨y,fun _=>⟨cs',h1,hy⟩⟩
   .exact ⟨jt,fun h=>absurd h hi⟩
  let X:Nat->RI:=fun i=>Classical.choose (ex i)
  have hX:∀ i,i<len->∃ cs',W.cells? 0 (a.add (i*7)) 7=some cs'/\J0 W (X i) cs':=fun i=>cM (ex i)
  have hlen:((List.range len).map X).length=len:= aj ;refine⟨(List.range len).map X,_,rfl,?_,?_⟩
  .intro y hy
   obtain⟨i,hi,rfl⟩:=cY.1 hy;obtain⟨cs',_,h2⟩:=hX i (bJ.1 hi);exact h2.1
  .have Et:∀ i,i<len->((List.range len).map X).getD i jt=X i:=by
    intro i hi;rw[aW,cj,amO hi];rfl
   have:=NU (W:=W) (a:=a) (len:=len) (cap:=m) (nl:=true) (fun i j=>(yV (((List.range len).map X).getD i jt)).getD j .any) hl hm (show 0<7 by decide)
    (fun i j _ hj=>let⟨h1,h2,h3⟩:=ajw (((List.range len).map X).getD i jt) j hj;⟨h1,fun _=>h2,h3⟩)
    (fun i hi=>by
     obtain⟨cs',h1,h2,_,h3⟩:=hX i hi;exact⟨cs',h1,fun j hj=>by rw[Et i hi];exact h3 j hj⟩)
   unfold jW;rw[hlen];exact this
end
open Go.ChangeShapes Go.WideShapes Go.ChangeAt Go.RowKit Fp Pu
theorem adU{P:Program}{c:OpenClaim}(h:P.funcs.any Func.goes=false)(hs:c.start = .entering):false=c.goesBy P:=by
 have h1:∀ g:Nat,(P.funcs[g]?).any Func.goes=false:=by
  intro g;cases hg:P.funcs[g]? with
  |none=>rfl
  |some fn=>
   rw[Option.any_some];rw[Array.any_eq_false]at h;obtain⟨hl,he⟩:=cP.1 hg;have:=h g hl;rw[he]at this;simpa using this
 have h2:∀ f,P.goes f=false:=by
  intro f;unfold Program.goes;rw[h,Bool.and_false,gQ,dX];intro g _;rw[h1 g];decide
 unfold OpenClaim.goesBy Program.goesAt Program.goesFrom;rw[hs];cases P.funcNamed c.func with
 |none=>rfl
 |some f=>simp[h2 f]
theorem ada:Tryz.pinned.checked.prog.funcs.any Func.goes=false:= ah 
def TX(k:IntKind)(l:List Int):E:=.sl true l.length 1 fun i _=>.v (.int k (l.getD i 0))
theorem Yp{k:IntKind}{z:Int}(h:(Lit.int k z).wf=true):ku k z:=by
 cases k<;>(simp[Lit.wf,IntKind.min,IntKind.max,IntKind.signed,IntKind.bits]at h;simp only[ku];omega)
theorem ahk{H:Type}{enc:TypeId×Value->H}{W:World}{fuel:Nat}{cs:List Value}{x:DataW H×List MemPlace}{t e:TypeId}{k:IntKind}(hk:∀ z,sj (.int k z)=false)(ht:Tryz.prog.underlying t=some (.slice e))(he:Tryz.prog.underlying e=some (.int k))(hC:Tryz.prog.cellsOf e=1)
  (h:DataW.trod enc Tryz.prog W 0 (fun _=>true) true fuel t cs=some x):∃ l v,cs=[v]/\(∀ z,z ∈ l->ku k z)/\iG mW mW W (TX k l) v:=by
 rcases Deep.open_slice ht h with⟨rfl,_⟩|⟨a,len,cap,m,n,D,Pl,rfl,hb,hl,hm,se,rfl,hx⟩
 .exact ⟨[],_,rfl,(fun y hy=>by cases hy),.sl true 0 1 _ none 0 (fun _ _=>.bool false) (aU _) ag (fun _=>rfl) (fun i j hi=>absurd hi (bj i)) (fun i j hi=>absurd hi (bj i)) (fun i j hi=>absurd hi (bj i)) (fun i j hi=>absurd hi (bj i))⟩
 .simp only[bk]at se
  subst se;have ex:∀ i,∃ z:Int,i<len->W.cells? 0 (a.add (i*1)) 1=some [.int k z]/\ku k z:=by
   intro i;by_cases hi:i<len
   .obtain ⟨cs',h1,h2⟩:=hx i ae 
    rw[hC]at h1;obtain⟨z,hz,_,hw⟩:=DataW.trod_int he h2;subst hz;exact⟨z,fun _=>⟨h1,Yp hw⟩⟩
   .exact ⟨0,fun h=>absurd h hi⟩
  let X:Nat->Int:=fun i=>Classical.choose (ex i)
  have hX:∀ i,i<len->W.cells? 0 (a.add (i*1)) 1=some [.int k (X i)]/\ku k (X i):=fun i=>cM (ex i)
  have hlen:((List.range len).map X).length=len:= aj ;refine⟨(List.range len).map X,_,rfl,?_,?_⟩
  .intro r hr
   obtain⟨i,hi,rfl⟩:=cY.1 hr;exact(hX i (bJ.1 hi)).2
  .have Et:∀ i,i<len->((List.range len).map X).getD i 0=X i:=by
    intro i hi;rw[aW,cj,amO hi];rfl
   have:=NU (W:=W) (a:=a) (len:=len) (cap:=m) (nl:=true) (fun i _=>.v (.int k (((List.range len).map X).getD i 0))) hl hm (show 0<1 by decide)
    (fun i j _ hj=>⟨rfl,fun _=>by show(!sj _)=true;rw[hk];rfl,rfl⟩)
    (fun i hi=>by
     refine⟨[.int k (X i)],(hX i hi).1,fun j hj=>?_⟩;obtain rfl:j=0:= ae ;exact⟨_,rfl,by rw[Et i hi];exact .v _⟩)
   unfold TX;rw[hlen];exact this
end Go.Proofs.YtdgnpeddgdclhaaGreatDoor
namespace Go.Proofs.YtdgnpeddgdclhaaGreatDoor.Pu
open Go.RowKit
inductive R where
 |nil
 |jC
 |a (p:Prop) (r:R)
 |w (p:Prop) (r1:p->R) (r2:¬p->R)
def R.ok:R->Prop
 | .nil=>True
 | .jC=>False
 | .a p r=>p/\r.ok
 | .w p r1 r2=>(∀ h:p,(r1 h).ok)/\(∀ h:¬p,(r2 h).ok)
inductive Tr(P:Program)(K:World->Prop) where
 |nil
 |c {f:FuncId} {args:List E} {jV:E} (h:PC P K f args jV) (t:Tr P K)
 |cf {f:FuncId} {args:List E} {jV:E} (h:AN P K f args jV) (t:Tr P K)
 |cn {f:FuncId} {args:List E} {nl:Bool} {T:TypeId} {n sz:Nat} {el:Nat->Nat->E} (h:uH P K f args nl T n sz el) (t:Tr P K)
 |g {op:BinOp} {ty:TypeId} {x y:E} {v:Value} (h:pD P op ty x y v) (t:Tr P K)
 |o (d:Nat) {p q:PV} (h:PV.le p q) (t:Tr P K)
 |bo (t:Tr P K)
 |a {p:Prop} (h:p) (t:Tr P K)
 |w (p:Prop) (t1:p->Tr P K) (t2:¬p->Tr P K)
 |s {c:Code} {σ τ:PS} {e:Ex} (h:Sp P K c σ (fun e' τ'=>e'=e/\τ'=τ)) (l t:Tr P K)
 |j (c:Nat) (τ:PS) (tj t:Tr P K)
 |v (d:Nat) {p q:PV} (h:PV.le p q) (t:Tr P K)
 |b (d:Nat) {p q:Bx} (h:Bx.le p q) (t:Tr P K)
 |z (id:Nat) (t:Tr P K)
 |y (s id:Nat) (nl:Bool) (T:TypeId) (sz:Nat) (el:Nat->Nat->E) (t:Tr P K)
 |e (t:Tr P K)
 |k (ts bs:List Nat) (t:Tr P K)
 |u (n:Nat) (t:Tr P K)
 |x (h:False)
 |r {p q:E} (h:E.le p q)
 |rb {p q:Bx} (h:Bx.le p q)
section
variable {P:Program} {K:World->Prop}
def DH:List (Nat×PV)->Tr P K->(Tr P K->R)->R
 | [],t,k=>k t
 | (d,q)::l,t,k=>match t with
  | .o d' (p:=p) (q:=q') _ t'=>if Nat.beq d' d then .a (PV.le p q') (DH l t' k)else .a (PV.le q q) (DH l t k)
  |t=>.a (PV.le q q) (DH l t k)
def Cf:List (Nat×Bx)->Tr P K->R->R
 | [],_,r=>r
 | (d,q)::l,t,r=>match t with
  | .b d' (p:=p) (q:=q') _ t'=>if Nat.beq d' d then .a (Bx.le p q') (Cf l t' r)else .a (Bx.le q q) (Cf l t r)
  |t=>.a (Bx.le q q) (Cf l t r)
def DC(σ:PS)(t:Tr P K)(r:R):R:=DH σ.t t fun t=>Cf σ.b t r
def Tr.ex:Tr P K->(Tr P K->R)->R
 | .nil,fin=>fin .nil
 | .e t,fin=>fin t
 | @Tr.c _ _ f args jV _ t,fin=>.a (PC P K f args jV) (t.ex fin)
 | @Tr.cf _ _ f args jV _ t,fin=>.a (AN P K f args jV) (t.ex fin)
 | @Tr.cn _ _ f args nl T n sz el _ t,fin=>.a (uH P K f args nl T n sz el) (t.ex fin)
 | @Tr.g _ _ op₁ ty₁ xe₁ ye₁ ve₁ _ t,fin=>.a (pD P op₁ ty₁ xe₁ ye₁ ve₁) (t.ex fin)
 | .o _ (p:=p) (q:=q) _ t,fin=>.a (PV.le p q) (t.ex fin)
 | .bo t,fin=>.a True (t.ex fin)
 | .a (p:=p) _ t,fin=>.a p (t.ex fin)
 | .w p t1 t2,fin=>.w p (fun h=>(t1 h).ex fin) (fun h=>(t2 h).ex fin)
 | @Tr.s _ _ c₁ σ τ e₁ _ l t,fin=>DC σ l (.a (Sp P K c₁ σ (fun e' τ'=>e'=e₁/\τ'=τ)) (t.ex fin))
 | .j _ τ tj t,fin=>.a (tj.ex fun t=>DC τ t .nil).ok (t.ex fin)
 | .v _ (p:=p) (q:=q) _ t,fin=>.a (PV.le p q) (t.ex fin)
 | .b _ _ t,fin=>t.ex fin
 | .z _ t,fin=>t.ex fin
 | .y _ _ _ _ _ _ t,fin=>t.ex fin
 | .k _ _ t,fin=>t.ex fin
 | .u _ t,fin=>t.ex fin
 | .x _,fin=>.a False .nil
 | .r (p:=p) (q:=q) _,fin=>.a (E.le p q) .nil
 | .rb (p:=p) (q:=q) _,fin=>.a (Bx.le p q) .nil
theorem ak5{l:List (Nat×PV)}{t:Tr P K}{k:Tr P K->R}(hk:∀ t,(k t).ok):(DH l t k).ok:=by
 induction l generalizing t with
 |nil=>exact hk t
 |cons x l ih=>
  obtain⟨d,q⟩:=x;cases t with
  |o d' h t'=>
   simp only[DH];split
   .exact ⟨h,ih⟩
   .exact ⟨PV.le.refl q,ih⟩
  |_=>exact⟨PV.le.refl q,ih⟩
theorem Zi{l:List (Nat×Bx)}{t:Tr P K}{r:R}(hr:r.ok):(Cf l t r).ok:=by
 induction l generalizing t with
 |nil=>exact hr
 |cons x l ih=>
  obtain⟨d,q⟩:=x;cases t with
  |b d' h t'=>
   simp only[Cf];split
   .exact ⟨h,ih⟩
   .exact ⟨Bx.le.refl q,ih⟩
  |_=>exact⟨Bx.le.refl q,ih⟩
theorem Oq{σ:PS}{t:Tr P K}{r:R}(hr:r.ok):(DC σ t r).ok:=ak5 fun _=>Zi hr
theorem Tr.Lb{fin:Tr P K->R}(hf:∀ t,(fin t).ok)(t:Tr P K):(t.ex fin).ok:=by
 induction t generalizing fin with
 |nil=>exact hf _
 |e t=>exact hf _
 |c h t ih=>exact⟨h,ih hf⟩
 |cf h t ih=>exact⟨h,ih hf⟩
 |cn h t ih=>exact⟨h,ih hf⟩
 |g h t ih=>exact⟨h,ih hf⟩
 |o d h t ih=>exact⟨h,ih hf⟩
 |bo t ih=>exact⟨trivial,ih hf⟩
 |a h t ih=>exact⟨h,ih hf⟩
 |w p t1 t2 EP ER=>exact⟨fun h=>EP h hf,fun h=>ER h hf⟩
 |s h l t ihl Mt=>exact Oq ⟨h,Mt hf⟩
 |j c τ tj t ihj Mt=>exact⟨ihj fun _=>Oq trivial,Mt hf⟩
 |v d h t ih=>exact⟨h,ih hf⟩
 |b d h t ih=>exact ih hf
 |z id t ih=>exact ih hf
 |y s id nl T sz el t ih=>exact ih hf
 |k ts bs t ih=>exact ih hf
 |u n t ih=>exact ih hf
 |x h=>exact h.elim
 |r h=>exact⟨h,trivial⟩
 |rb h=>exact⟨h,trivial⟩
def Oz(υ:PS):List (Nat×PV)->R->R
 | [],r=>r
 | (d,q)::l,r=>.a (PV.le (υ.get d) q) (Oz υ l r)
def Gz(υ:PS):List (Nat×Bx)->R->R
 | [],r=>r
 | (d,q)::l,r=>match υ.bo d with
  |some b=>.a (Bx.le b q) (Gz υ l r)
  |none=>.jC
def JD(υ σ:PS)(r:R):R:=if Nat.beq υ.n σ.n&&(σ.b.all (fun x=>x.2.nl)||(σ.nl==υ.nl))&&FM σ then Oz υ σ.t (Gz υ σ.b r)else .jC
def Tr.tail:Tr P K->Tr P K
 | .c _ t=>t
 | .cf _ t=>t
 | .cn _ t=>t
 | .g _ t=>t
 | .bo t=>t
 | .a _ t=>t
 |_=>.nil
def Ni:List Prop->Tr P K->(Tr P K->R)->R
 | [],t,k=>k t
 |p::l,t,k=>.a p (Ni l t.tail k)
def Qo(d:Option Tmp)(t:Tr P K):qB:=match d with
 |some d=>match t with
  | @Tr.c _ _ _ _ jV _ _=>{ cl:=[(d,jV)] }
  | @Tr.cf _ _ _ _ jV _ _=>{ cl:=[(d,jV)] }
  | @Tr.g _ _ _ _ _ _ ve₁ _ _=>{ cl:=[(d,.v ve₁)] }
  | @Tr.cn _ _ _ _ nl T n sz el _ _=>{ nw:=[(d,.row nl T n sz el)] }
  | .bo _=>{ nw:=[(d,.cells 0 [])] }
  |_=>{}
 |none=>{}
def Fw:Tr P K->(Tr P K->R)->R
 | .w p t1 t2,k=>.w p (fun h=>Fw (t1 h) k) (fun h=>Fw (t2 h) k)
 | .x _,_=>.a False .nil
 |t,k=>k t
def Nw(o:Oper)(u:kN)(t:Tr P K)(k:kN->Tr P K->R):R:=match o.dst,t with
 |some d,.o d' (q:=q) _ t'=>if Nat.beq d' d then .a (PV.le u.r q) (k { u with r:=q,jU:=PV.le u.r q::u.jU } t')else k u t
 |_,t=>k u t
def Np(T:List TI)(gW:Array Oper)(σ:PS)(o:Oper)(t:Tr P K)(k:kN->Tr P K->R):R:=
 if ve σ o.dst then match ze gW σ o with
  |some false=>k { r:=.e (.v (.tuple #[])),rd:=(looks gW o).map σ.get } t
  |some true=>Fw t fun t=>match jL P K T (Qo o.dst t) σ o with
   |some u=>Ni u.jU t fun t=>Fw t fun t=>Nw o u t fun u t=>k { u with rd:=(looks gW o).map σ.get } t
   |none=>.jC
  |none=>.jC
 else .jC
def Nt(T:List TI)(gW:Array Oper)(k:List (Oper×kN)->PS->Tr P K->R):List Oper->List (Oper×kN)->PS->Tr P K->R
 | [],us,σ,t=>k us σ t
 |o::l,us,σ,t=>Np T gW σ o t fun u t'=>Nt T gW k l ((o,u)::us) (σ.app o.dst u) t'
def ru(c:Bool):Tr P K->PS->(Tr P K->PS->R)->R
 | .w p t1 t2,σ,k=>.w p (fun h=>ru c (t1 h) σ k) (fun h=>ru c (t2 h) σ k)
 | .x _,_,_=>.a False .nil
 | .v d (q:=q) _ t,σ,k=>match q with
  | .e x=>if ve σ (some d)then .a (PV.le (σ.get d) (.e x)) (ru c t (σ.put (some d) (.e x)) k)else .jC
  |_=>.jC
 | .k ts bs t,σ,k=>if c then k (.k ts bs t) σ else if FM (σ.cut ts bs)then ru c t (σ.cut ts bs) k else .jC
 | .z id t,σ,k=>if c then k (.z id t) σ else match σ.bo id with
  |some b=>match b.as with
   |some e=>ru c t (σ.wY id e) k
   |none=>.jC
  |none=>.jC
 | .y s id nl T sz el t,σ,k=>if c then k (.y s id nl T sz el t) σ else match σ.bo id,σ.get s with
  |none,.e (.v (.slice none 0 0))=>if !σ.nl||nl then ru c t (σ.Cb s id (.row nl T 0 sz el)) k else .jC
  |_,_=>.jC
 |t,σ,k=>k t σ
def On(c:Code)(σ:PS)(t:Tr P K)(k:Ex->PS->Tr P K->R):R:=match t with
 | @Tr.s _ _ _ σ' τ e _ _ t=>JD σ σ' (.a (Sp P K c σ' (fun e' τ'=>e'=e/\τ'=τ)) (k e τ t))
 |_=>.jC
def Ex.qk:Ex->Ex->Bool
 | .normal,.normal=>true
 | .ret,.ret=>true
 | .exit a,.exit b=>Nat.beq a b
 |_,_=>false
def Ea(e:Ex)(τ:PS)(e':Ex)(υ:PS)(_:Tr P K):R:=if Ex.qk e' e then JD υ τ .nil else .jC
def abb:Operand->Nat
 | .tmp t=>2*t
 |_=>1
def jn(c:Nat)(g:PS->Tr P K->(Ex->PS->Tr P K->R)->R)(σ:PS)(t:Tr P K)(k:Ex->PS->Tr P K->R):R:=match t with
 | .j c' τ tj t'=>if Nat.beq c' c then .a (g σ tj (Ea .normal τ)).ok (k .normal τ t')else g σ t k
 |t=>g σ t k
def Yc(f:PS->Tr P K->(Ex->PS->Tr P K->R)->R):Nat->PS->Tr P K->(Ex->PS->Tr P K->R)->R
 | 0,_,_,_=>.jC
 |n+1,σ,t,k=>ru false t σ fun t σ=>f σ t fun e τ t=>match e with
  | .normal=>Yc f n τ t k
  |e=>k e τ t
def uS(T:List TI):Code->PS->Tr P K->(Ex->PS->Tr P K->R)->R
 | .skip,σ,t,k=>k .normal σ t
 | .region _ gW d,σ,t,k=>Nt T gW (fun us τ t=>if !d||Dg gW 0 us.reverse then k .normal τ t else .jC) gW.toList [] σ t
 | .seq a b,σ,t,k=>uS T a σ t fun e τ t=>match e with
  | .normal=>uS T b τ t k
  |e=>k e τ t
 | .cond c a b,σ,t,k=>ru true t σ fun t σ=>jn (abb c) (fun σ t k=>ru true t σ fun t σ=>match σ.op c with
  | .e (.v (.bool true))=>uS T a σ t k
  | .e (.v (.bool false))=>uS T b σ t k
  |_=>.jC) σ t k
 | .block id b,σ,t,k=>ru true t σ fun t σ=>jn (2*id+1) (fun σ t k=>uS T b σ t fun e τ t=>match e with
  | .exit i=>if Nat.beq i id then k .normal τ t else k (.exit i) τ t
  |e=>k e τ t) σ t k
 | .exit id,σ,t,k=>ru false t σ fun t σ=>k (.exit id) σ t
 | .ret,σ,t,k=>ru false t σ fun t σ=>k .ret σ t
 | .loop b,σ,t,k=>ru false t σ fun t σ=>match t with
  | .u n t=>Yc (uS T b) n σ t k
  |t=>On (.loop b) σ t k
 | .label _,σ,t,k=>k .normal σ t
 | .scope b,σ,t,k=>uS T b σ t k
 |_,_,_,_=>.jC
theorem Vy{t:Tr P K}{k:Tr P K->R}(h:(Fw t k).ok):∃ t',(k t').ok:=by
 induction t with
 |w p t1 t2 EP ER=>
  by_cases hp:p
  .exact EP hp (h.1 hp)
  .exact ER hp (h.2 hp)
 |x hf=>exact hf.elim
 |_=>exact⟨_,h⟩
theorem ahc{l:List Prop}{t:Tr P K}{k:Tr P K->R}(h:(Ni l t k).ok):(∀ q,q ∈ l->q)/\∃ t',(k t').ok:=by
 induction l generalizing t with
 |nil=>exact⟨fun q hq=>by simp at hq,t,h⟩
 |cons p l ih=>
  obtain⟨h1,h2⟩:=ih h.2;refine⟨fun q hq=>?_,h2⟩;rcases cU.1 hq with hq|hq
  .subst hq;exact h.1
  .exact h1 q hq
variable {T:List TI} {gW:Array Oper} {σ:PS} {o:Oper}
theorem ahw{O:qB}{u:kN}{t:Tr P K}{k:kN->Tr P K->R}(hO:O.ov=[])(hu:jL P K T O σ o=some u)(ho:∀ q,q ∈ u.jU->q)(h:(Nw o u t k).ok):
 ∃ O' u' t',tM P K T O' σ o=some u'/\(∀ q,q ∈ u'.jU->q)/\(k u' t').ok:=by
 have plain:(k u t).ok->∃ O' u' t',tM P K T O' σ o=some u'/\(∀ q,q ∈ u'.jU->q)/\(k u' t').ok:=by
  intro h;refine⟨O,u,t,?_,ho,h⟩;unfold tM;rw[hu,hO];cases o.dst<;>rfl
 unfold Nw at h;split at h
 .rename_i d d' p q hpq t' hd
  split at h
  .obtain ⟨h1,h2⟩:=h
   refine⟨⟨O.cl,[(d,q)],O.nw⟩,_,t',?_,fun x hx=>?_,h2⟩
   .unfold tM
    have he:jL P K T ⟨O.cl,[(d,q)],O.nw⟩ σ o=jL P K T O σ o:=by cases O;rfl
    rw[he,hu,hd];simp[look]
   .rcases cU.1 hx with hx|hx
    .subst hx;exact h1
    .exact ho x hx
  .exact plain h
 .exact plain h
theorem ahh{t:Tr P K}{k:kN->Tr P K->R}(h:(Np T gW σ o t k).ok):∃ u t',(∃ O,qY P K T O gW σ o=some u)/\(∀ q,q ∈ u.jU->q)/\(k u t').ok:=by
 unfold Np at h;split at h
 .rename_i hi
  split at h
  .rename_i hw
   refine⟨_,t,⟨{},?_⟩,fun q hq=>by simp at hq,h⟩;unfold qY;rw[aR hi,hw]
  .rename_i hw
   obtain⟨t1,h1⟩:=Vy h;split at h1
   .rename_i u hu
    obtain⟨ho,t2,h2⟩:=ahc h1;obtain⟨t2,h2⟩:=Vy h2;obtain⟨O',u',t3,CW,Iq,h3⟩:=ahw (by
     unfold Qo;cases o.dst with
     |none=>rfl
     |some d=>cases t1<;>rfl) hu ho h2
    refine⟨{ u' with rd:=(looks gW o).map σ.get },t3,⟨O',?_⟩,Iq,h3⟩;unfold qY;rw[aR hi,hw,CW]
   .exact h1.elim
  .exact h.elim
 .exact h.elim
theorem ahs{k:List (Oper×kN)->PS->Tr P K->R}{l:List Oper}{us:List (Oper×kN)}{t:Tr P K}(h:(Nt T gW k l us σ t).ok):
 ∃ vs τ t',vH P K T gW vs σ τ/\vs.map (·.1)=l/\(∀ x,x ∈ vs->∀ q,q ∈ x.2.jU->q)/\(k (vs.reverse++us) τ t').ok:=by
 induction l generalizing us σ t with
 |nil=>exact⟨[],σ,t,rG.refl σ,rfl,fun x hx=>by simp at hx,h⟩
 |cons o l ih=>
  obtain⟨u,t1,h1,h2,h3⟩:=ahh h;obtain⟨vs,τ,t',k1,k2,k3,k4⟩:=ih h3;refine⟨(o,u)::vs,τ,t',⟨h1,k1⟩,by simp[k2],fun x hx=>?_,by simpa using k4⟩;rcases cU.1 hx with hx|hx
  .subst hx;exact h2
  .exact k3 x hx
theorem PS.le.set{σ:PS}{d:Nat}{x:E}(hd:ve σ (some d)=true)(h:PV.le (σ.get d) (.e x)):PS.le σ (σ.put (some d) (.e x)):=fun w0 B a w L _ r=>by
 have Bd:d<σ.n:=by simpa[ve,Nat.blt_eq]using hd
 refine⟨L,r.hd,by rw[PS.M4];exact r.hs,fun t=>?_,fun id b hb=>r.hb id b hb,r.hv,r.hn,r.hw,r.hi,r.he,r.hl⟩;rw[PS.Ln];by_cases e:d=t
 .subst e;rw[aR rfl];exact h _ _ _ _ _ (r.ht d)
 .rw [aQ e];exact r.ht t
theorem BN{c:Bool}{t:Tr P K}{σ:PS}{k:Tr P K->PS->R}(h:(ru c t σ k).ok):∃ t' τ,PS.le σ τ/\(k t' τ).ok:=by
 induction t generalizing σ with
 |w p t1 t2 EP ER=>
  by_cases hp:p
  .exact EP hp (h.1 hp)
  .exact ER hp (h.2 hp)
 |k ts bs t ih=>
  simp only[ru]at h;split at h
  .exact ⟨_,σ,PS.le.refl σ,h⟩
  split at h
  .rename_i hr
   obtain⟨t',τ,h1,h2⟩:=ih h;exact⟨t',τ,(PS.le.cut ts bs hr).trans h1,h2⟩
  .exact h.elim
 |v d h0 t ih=>
  simp only[ru]at h;split at h
  .rename_i x
   split at h
   .rename_i hd
    obtain⟨t',τ,h1,h2⟩:=ih h.2;exact⟨t',τ,(PS.le.set hd h.1).trans h1,h2⟩
   .exact h.elim
  .exact h.elim
 |z id t ih=>
  simp only[ru]at h;split at h
  .exact ⟨_,σ,PS.le.refl σ,h⟩
  split at h
  .rename_i b hb
   split at h
   .rename_i e he
    obtain⟨t',τ,h1,h2⟩:=ih h;exact⟨t',τ,(PS.le.freeze id hb he).trans h1,h2⟩
   .exact h.elim
  .exact h.elim
 |y s id nl T sz el t ih=>
  simp only[ru]at h;split at h
  .exact ⟨_,σ,PS.le.refl σ,h⟩
  split at h
  .rename_i hb hg
   split at h
   .rename_i hn
    obtain⟨t',τ,h1,h2⟩:=ih h;exact⟨t',τ,(PS.le.YT s id hb hg (fun e=>by rw[e]at hn;simpa using hn)).trans h1,h2⟩
   .exact h.elim
  .exact h.elim
 |x hf=>exact hf.elim
 |_=>exact⟨_,σ,PS.le.refl σ,h⟩
theorem ak6{υ:PS}{l:List (Nat×PV)}{r:R}(h:(Oz υ l r).ok):wQ υ l/\r.ok:=by
 induction l with
 |nil=>exact⟨trivial,h⟩
 |cons x l ih=>obtain⟨d,q⟩:=x;exact⟨⟨h.1,(ih h.2).1⟩,(ih h.2).2⟩
theorem ZJ{υ:PS}{l:List (Nat×Bx)}{r:R}(h:(Gz υ l r).ok):vF υ l/\r.ok:=by
 induction l with
 |nil=>exact⟨trivial,h⟩
 |cons x l ih=>
  obtain⟨d,q⟩:=x;simp only[Gz]at h;split at h
  .rename_i b hb
   exact⟨⟨⟨b,hb,h.1⟩,(ih h.2).1⟩,(ih h.2).2⟩
  .exact h.elim
theorem Xy{υ σ:PS}{r:R}(h:(JD υ σ r).ok):PS.le υ σ/\r.ok:=by
 unfold JD at h;split at h
 .rename_i hc
  simp only[bA,fY,beq_iff_eq]at hc;obtain⟨⟨h1,h2⟩,h3⟩:=hc;obtain⟨h4,h5⟩:=ak6 h;obtain⟨h6,h7⟩:=ZJ h5;refine⟨?_,h7⟩;rcases h2 with h2|h2
  .exact PS.le.afS (mO.1 h1) h2 h3 h4 h6
  .exact PS.le.pR (mO.1 h1) h2 h3 h4 h6
 .exact h.elim
theorem ajX(hT:mE P T){w0:World}{B:Nat->Prop}{a:Act}{w:World}{L:Lk}(g:Gd P K w0 B){us:List (Oper×kN)}{τ:PS}{Q:Exit->Act->World->Prop}(h:vH P K T gW us σ τ)(ho:∀ x,x ∈ us->∀ q,q ∈ x.2.jU->q)
 (r:jB w0 B σ a w L) (hq:∀ a' w' L',jB w0 B τ a' w' L'->Q .normal a' w'):wpList P gW Q (us.map (·.1)) a w:=by
 induction us generalizing σ a w L with
 |nil=>exact hq a w L (r.qk h)
 |cons x us ih=>
  obtain⟨⟨O,h1⟩,h2⟩:=h;rw[eR];unfold wpList;rcases Rs hT g r h1 (ho x aj) (wpList P gW Q (us.map (·.1))) Q (fun a' w' L' hr=>ih h2 (fun y hy=>ho y (by simp[hy])) hr)with⟨p1,p2⟩|⟨p1,p2⟩
  .rw [aR p1];exact .inl p2
  .rw [aQ (by rw[p1];simp)];exact p2
theorem ajn(hT:mE P T)(hm:P.follows .mixedOrders=true){w0:World}{B:Nat->Prop}{a:Act}{w:World}{L:Lk}(g:Gd P K w0 B){id:Nat}{draw:Bool}{us:List (Oper×kN)}{τ:PS}{Q:Exit->Act->World->Prop}
 (h:vH P K T gW us σ τ) (hl:us.map (·.1)=gW.toList) (ho:∀ x,x ∈ us->∀ q,q ∈ x.2.jU->q) (hp:(!draw||Dg gW 0 us)=true) (r:jB w0 B σ a w L)
 (hq:∀ a' w' L',jB w0 B τ a' w' L'->Q .normal a' w'):(Code.region id gW draw).wp P Q a w:=by
 cases draw with
 |false=>exact wp_region_list (by rw[<-hl];exact ajX hT g h ho r hq)
 |true=>
  obtain⟨R,r1,r2,r3⟩:=af0 hl (by simpa using hp);refine wp_region_any hm (YX hT g hq gW.size (Array.replicate gW.size false) R σ a w.drew L r2 aj r3 (fun x hx=>ho x.2 ?_) (by rw[r1];exact h) r.drew);rw[<-r1];exact cY.2 ⟨x,hx,rfl⟩
theorem akA{c:Code}{t:Tr P K}{k:Ex->PS->Tr P K->R}(h:(On c σ t k).ok):Sp P K c σ (fun e τ=>∃ t',(k e τ t').ok):=by
 unfold On at h;split at h
 .obtain ⟨h1,h2,h3⟩:=Xy h
  exact Sp.pre h1 (h2.mono fun e τ ⟨q1,q2⟩=>by subst q1 q2;exact⟨_,h3⟩)
 .exact h.elim
theorem Ex.ajY{a b:Ex}(h:Ex.qk a b=true):a=b:=by
 cases a<;>cases b<;>first|rfl|(cases h;done)|exact congrArg Ex.exit (mO.1 h)
theorem Ri{e e':Ex}{τ υ:PS}{t:Tr P K}(h:(Ea e τ e' υ t).ok):e'=e/\PS.le υ τ:=by
 unfold Ea at h;split at h
 .rename_i he;exact⟨Ex.ajY he,(Xy h).1⟩
 .exact h.elim
theorem Uc{c:Code}{cb:Nat}{g:PS->Tr P K->(Ex->PS->Tr P K->R)->R}(hg:∀ σ t k,(g σ t k).ok->Sp P K c σ (fun e τ=>∃ t',(k e τ t').ok)){σ:PS}{t:Tr P K}{k:Ex->PS->Tr P K->R}(h:(jn cb g σ t k).ok):
 Sp P K c σ (fun e τ=>∃ t',(k e τ t').ok):=by
 unfold jn at h;split at h
 .rename_i c' τ tj t
  split at h
  .refine (hg _ _ _ h.1).post fun e υ ⟨t',ht⟩=>?_
   obtain⟨he,hl⟩:=Ri ht;exact⟨τ,hl,t,by rw[he];exact h.2⟩
  .exact hg _ _ _ h
 .exact hg _ _ _ h
def vI(P:Program)(K:World->Prop)(b:Code)(σ:PS)(Q:Ex->PS->Prop):Prop:=
 ∀ (w0:World) (B:Nat->Prop) (a:Act) (w:World) (L:Lk),Gd P K w0 B->jB w0 B σ a w L->∀ bf k cs,
  ∃ e a' w',(∃ ex τ L',e=Ex.to ex/\Q ex τ/\jB w0 B τ a' w' L')/\Arrives P (lone (bf.at a (.code b :: .inLoop b::k)) cs w) bf k cs e a' w'
theorem vI.loop{b:Code}{σ:PS}{Q:Ex->PS->Prop}(h:vI P K b σ Q):Sp P K (.loop b) σ Q:=by
 intro w0 B a w L g r bf k cs;obtain⟨e,a',w',hq,vY⟩:=h w0 B a w L g r bf k cs;exact⟨e,a',w',hq,.of_steps (.one step_loop) vY⟩
theorem vI.pre{b:Code}{σ τ:PS}{Q:Ex->PS->Prop}(h:PS.le σ τ)(k:vI P K b τ Q):vI P K b σ Q:=fun w0 B a w L g r=>
 let⟨L',r'⟩:=h w0 B a w L (fun b hb=>(g.hB b hb).1) r;k w0 B a w L' g r'
theorem vI.step{b:Code}{σ:PS}{Q:Ex->PS->Prop}(h:Sp P K b σ (fun e τ=>(e = .normal/\vI P K b τ Q)\/(e ≠ .normal/\Q e τ))):vI P K b σ Q:=by
 intro w0 B a w L g r bf k cs;obtain⟨e,a₁,w₁,⟨ex,υ,L2,rfl,hq,nW⟩,vY⟩:=h w0 B a w L g r bf (.inLoop b::k) cs;rcases hq with⟨rfl,hs⟩|⟨kI,hq⟩
 .obtain ⟨e₂,a₂,w₂,Mg,LI⟩:=hs w0 B a₁ w₁ L2 g nW bf k cs
  exact⟨e₂,a₂,w₂,Mg,.of_steps (Steps.trans vY (.one step_inLoop)) LI⟩
 .cases ex with
  |normal=>exact absurd rfl kI
  |exit i=>exact⟨_,a₁,w₁,⟨.exit i,υ,L2,rfl,hq,nW⟩,.pass (x:=.inLoop b) rfl (fun _ _=>.inl (by simp[Ex.to])) vY⟩
  |ret=>exact⟨_,a₁,w₁,⟨.ret,υ,L2,rfl,hq,nW⟩,.pass (x:=.inLoop b) rfl (fun _ _=>.inl (by simp[Ex.to])) vY⟩
theorem K2(hT:mE P T)(hm:P.follows .mixedOrders=true){c:Code}{σ:PS}{t:Tr P K}{k:Ex->PS->Tr P K->R}(h:(uS T c σ t k).ok):Sp P K c σ (fun e τ=>∃ t',(k e τ t').ok):=by
 induction c generalizing σ t k with
 |skip=>exact fun w0 B a w L g r=>wp_skip ⟨.normal,_,L,rfl,⟨t,h⟩,r⟩
 |region id gW d=>
  obtain⟨vs,τ,t',h1,h2,h3,h4⟩:=ahs h;split at h4
  .rename_i hp
   simp only[List.append_nil,List.reverse_reverse]at hp;exact fun w0 B a w L g r=>ajn hT hm g h1 h2 h3 hp r fun a' w' L' hr=>⟨.normal,τ,L',rfl,⟨t',h4⟩,hr⟩
  .exact h4.elim
 |seq x y Mu Mv=>
  intro w0 B a w L g r;refine wp_seq (Code.wp_mono ?_ (Mu h w0 B a w L g r));rintro ex a' w' ⟨e1,τ1,L',rfl,⟨t',ht⟩,hr⟩;cases e1 with
  |normal=>exact Mv ht w0 B a' w' L' g hr
  |exit i=>exact⟨.exit i,τ1,L',rfl,⟨t',ht⟩,hr⟩
  |ret=>exact⟨.ret,τ1,L',rfl,⟨t',ht⟩,hr⟩
 |cond c x y Mu Mv=>
  obtain⟨t1,τ,hle,h1⟩:=BN h;refine Sp.pre hle (Uc (fun σ t k h=>?_) h1);obtain⟨t1,τ,hle,h1⟩:=BN h;refine Sp.pre hle ?_;split at h1
  .rename_i hc
   intro w0 B a w L g r;have hv:=r.op c;rw[hc]at hv;exact wp_cond_true (iG.kK hv) (Mu h1 w0 B a w L g r)
  .rename_i hc
   intro w0 B a w L g r;have hv:=r.op c;rw[hc]at hv;exact wp_cond_false (iG.kK hv) (Mv h1 w0 B a w L g r)
  .exact h1.elim
 |block id b ih=>
  obtain⟨t1,τ,hle,h1⟩:=BN h;refine Sp.pre hle (Uc (fun σ t k h=>?_) h1);intro w0 B a w L g r;refine wp_block (Code.wp_mono ?_ (ih h w0 B a w L g r));rintro ex a' w' ⟨e1,τ1,L',rfl,⟨t',ht⟩,hr⟩;cases e1 with
  |normal=>exact⟨.normal,_,L',rfl,⟨t',ht⟩,hr⟩
  |ret=>exact⟨.ret,_,L',rfl,⟨t',ht⟩,hr⟩
  |exit i=>
   simp only at ht;show Exit.inBlock id _ (.exit i) a' w';split at ht
   .rename_i hi
    have hi:=mO.1 hi;subst hi;simp only[Exit.inBlock,bk];exact⟨.normal,_,L',rfl,⟨t',ht⟩,hr⟩
   .rename_i hi
    have hi:i≠id:=fun e=>hi (mO.2 e)
    simp only[Exit.inBlock,hi,a6];exact⟨.exit i,_,L',rfl,⟨t',ht⟩,hr⟩
 |label l=>exact fun w0 B a w L g r=>wp_label ⟨.normal,_,L,rfl,⟨t,h⟩,r⟩
 |scope b ih=>
  intro w0 B a w L g r;refine wp_scope_straight (Code.wp_mono ?_ (ih h w0 B a w L g r));rintro ex a' w' ⟨e1,τ1,L',rfl,⟨t',ht⟩,hr⟩;cases e1 with
  |normal=>exact⟨.normal,τ1,L',rfl,⟨t',ht⟩,hr⟩
  |ret=>exact⟨.ret,τ1,L',rfl,⟨t',ht⟩,hr⟩
  |exit i=>exact⟨.exit i,τ1,L',rfl,⟨t',ht⟩,hr⟩
 |exit id=>
  obtain⟨t1,τ,hle,h1⟩:=BN h;exact Sp.pre hle fun w0 B a w L g r=>wp_exit ⟨.exit id,_,L,rfl,⟨t1,h1⟩,r⟩
 |ret=>
  obtain⟨t1,τ,hle,h1⟩:=BN h;exact Sp.pre hle fun w0 B a w L g r=>wp_ret ⟨.ret,_,L,rfl,⟨t1,h1⟩,r⟩
 |loop b ih=>
  obtain⟨t1,τ,hle,h1⟩:=BN h;refine Sp.pre hle ?_;split at h1
  .rename_i n t
   clear hle h;refine vI.loop ?_
   induction n generalizing τ t with
   |zero=>exact h1.elim
   |succ n ihn=>
    obtain⟨t2,τ2,hle,h1⟩:=BN h1;refine vI.pre hle (vI.step ((ih h1).mono fun e υ ⟨t',ht⟩=>?_));cases e with
    |normal=>exact .inl ⟨rfl,ihn _ _ ht⟩
    |exit i=>exact .inr ⟨aj,t',ht⟩
    |ret=>exact .inr ⟨aj,t',ht⟩
  .exact akA h1
 |_=>exact h.elim
theorem Sp.tr(hT:mE P T)(hm:P.follows .mixedOrders=true){c:Code}{σ τ:PS}{e:Ex}(t:Tr P K)(h:uS T c σ t (Ea e τ)=t.ex fun t=>DC τ t .nil):
 Sp P K c σ (fun e' τ'=>e'=e/\τ'=τ):=by
 have hk:=Tr.Lb (fin:=fun t=>DC τ t .nil) (fun t=>Oq trivial) t;rw[<-h]at hk;refine(K2 hT hm hk).post fun e' υ ⟨t',ht⟩=>?_
 obtain⟨he,hl⟩:=Ri ht;exact⟨τ,hl,he,rfl⟩
def RF(T:List TI)(fn:Func)(jV:E)(e:Ex)(τ:PS)(_:Tr P K):R:=match e with
 | .exit _=>.jC
 |_=>match Jr T fn τ with
  |some r=>.a (E.le r jV) .nil
  |none=>.jC
def NR(T:List TI)(fn:Func)(nl:Bool)(args:List E)(jV:E)(t:Tr P K):R:=match fn.body with
 |some c=>if Nat.ble args.length fn.ntmps then uS T c (Af fn nl args) t (RF T fn jV)else .jC
 |none=>.jC
theorem PC.OD(hT:mE P T)(hm:P.follows .mixedOrders=true)(hp:∀ w w',K w->Below w.heap.size w w'->K w'){f:FuncId}{fn:Func}{args:List E}{jV:E}(wb:∀ (vs:Array Value) (w:World),(callFunc f vs).run P w = .ok (.enter f vs) w)
 (hf:P.funcs[f]? = some fn) (nl:Bool) (t:Tr P K) (h:NR T fn nl args jV t=t.ex fun _=>.a (E.le jV jV) .nil):PC P K f args jV:=by
 have hk:=Tr.Lb (fin:=fun _=>.a (E.le jV jV) .nil) (fun t=>⟨E.le.refl jV,trivial⟩) t;rw[<-h]at hk;unfold NR at hk;split at hk
 .rename_i c hb
  split at hk
  .rename_i hn
   refine PC.MZ hT hm hp wb hf hb (cI hn) nl ((K2 hT hm hk).mono fun e τ ⟨t',ht⟩=>?_);unfold RF at ht;split at ht
   .exact ht.elim
   .rename_i kI
    split at ht
    .rename_i r hr
     refine⟨?_,r,hr,ht.1⟩;cases e with
     |normal=>exact .inr rfl
     |ret=>exact .inl rfl
     |exit i=>exact absurd rfl (kI i)
    .exact ht.elim
  .exact hk.elim
 .exact hk.elim
def RE(fn:Func)(b:Bx)(e:Ex)(τ:PS)(_:Tr P K):R:=match e with
 | .exit _=>.jC
 |_=>match fn.results.toList with
  | [.tmp t]=>match τ.get t with
   | .own id=>match τ.bo id with
    |some c=>.a (Bx.le c b) .nil
    |none=>.jC
   |_=>.jC
  |_=>.jC
def NQ(T:List TI)(fn:Func)(args:List E)(b:Bx)(t:Tr P K):R:=match fn.body with
 |some c=>if Nat.ble args.length fn.ntmps then uS T c (Af fn true args) t (RE fn b)else .jC
 |none=>.jC
theorem uH.OD(hT:mE P T)(hm:P.follows .mixedOrders=true)(hp:∀ w w',K w->Below w.heap.size w w'->K w'){f:FuncId}{fn:Func}{args:List E}{nl:Bool}{T0:TypeId}{n sz:Nat}{el:Nat->Nat->E}(wb:∀ (vs:Array Value) (w:World),(callFunc f vs).run P w = .ok (.enter f vs) w)
 (hf:P.funcs[f]? = some fn) (t:Tr P K) (h:NQ T fn args (.row nl T0 n sz el) t=t.ex fun _=>.a (Bx.le (.row nl T0 n sz el) (.row nl T0 n sz el)) .nil):uH P K f args nl T0 n sz el:=by
 have hk:=Tr.Lb (fin:=fun _=>.a (Bx.le (.row nl T0 n sz el) (.row nl T0 n sz el)) .nil) (fun t=>⟨Bx.le.refl _,trivial⟩) t;rw[<-h]at hk;unfold NQ at hk;split at hk
 .rename_i c hb
  split at hk
  .rename_i hn
   refine uH.MZ hT hm hp wb hf hb (cI hn) true ((K2 hT hm hk).mono fun e τ ⟨t',ht⟩=>?_);unfold RE at ht;split at ht
   .exact ht.elim
   .rename_i kI
    split at ht
    .rename_i t0 hr
     split at ht
     .rename_i id hg
      split at ht
      .rename_i c' hc
       refine⟨?_,t0,id,c',hr,hg,hc,fun bs br L w hk=>ht.1.2 _ _ _ _ _ hk⟩;cases e with
       |normal=>exact .inr rfl
       |ret=>exact .inl rfl
       |exit i=>exact absurd rfl (kI i)
      .exact ht.elim
     .exact ht.elim
    .exact ht.elim
  .exact hk.elim
 .exact hk.elim
theorem Sp.jx{b:Code}{e:Ex}{τ:PS}(f:Nat->PS)(lo hi:Nat)(h0:lo<=hi)(go:∀ x,(lo<=x/\x<=hi)->x<hi->Sp P K b (f x) (fun e' υ=>e' = .normal/\υ=f (x+1)))
 (out:(lo<=hi/\hi<=hi)->Sp P K b (f hi) (fun e' υ=>e'=e/\υ=τ)) (he:e ≠ .normal):Sp P K (.loop b) (f lo) (fun e' υ=>e'=e/\υ=τ):=by
 refine Sp.fam f (fun x=>lo<=x/\x<=hi) (fun x=>hi-x) (fun x hx=>?_) lo ⟨aU _,h0⟩ (PS.le.refl _);rcases Nat.lt_or_eq_of_le hx.2 with iD|heq
 .exact Sp.ac1 (x+1) (go x hx iD) ⟨ae,ae⟩ ae (PS.le.refl _)
 .subst heq
  exact Sp.ac2 (out hx) he (PS.le.refl _)
def iq(z:Int)(h:-9223372036854775808<=z/\z<=9223372036854775807):Tr P K->Tr P K:=.a (p:=ku .i64 z) h
def pd(z:Int)(h:0<=z/\z<=18446744073709551615):Tr P K->Tr P K:=.a (p:=ku .u64 z) h
def iX(z:Int)(n:Nat)(h:0<=z/\z<n):Tr P K->Tr P K:=.a h
def tB(d:Nat){a b:Bool}(h:a=b):Tr P K->Tr P K:=.o d (PV.le.bool h)
def tT(d:Nat)(p:Prop)[Decidable p](h:p):Tr P K->Tr P K:=.o d (PV.le.bool (aS h))
def tF(d:Nat)(p:Prop)[Decidable p](h:¬p):Tr P K->Tr P K:=.o d (PV.le.bool (aT h))
theorem uM{b:Bool}(h:b=true):(!b)=false:=by rw[h];rfl
theorem uL{b:Bool}(h:b=false):(!b)=true:=by rw[h];rfl
def rQ(p q:E)(h:p=q):Tr P K:=.r (E.le.iU h)
def rR(q:E){p:E}(h:E.le p q):Tr P K:=.r h
def chain(l:List (Tr P K->Tr P K))(t:Tr P K):Tr P K:=l.foldr (fun f t=>f t) t
end
end Go.Proofs.YtdgnpeddgdclhaaGreatDoor.Pu
namespace Go.Proofs.YtdgnpeddgdclhaaGreatDoor
open Go.RowKit Fp Pu
theorem tr(nl:Bool){f:FuncId}{fn:Func}{args:List E}{jV:E}(wb:∀ (vs:Array Value) (w:World),(callFunc f vs).run Tryz.prog w = .ok (.enter f vs) w)
 (hf:Tryz.prog.funcs[f]? = some fn) (t:Tr Tryz.prog Tb) (h:NR TT fn nl args jV t=t.ex fun _=>.a (E.le jV jV) .nil):gU f args jV:=
 PC.OD J6 mixed O6 wb hf nl t h
theorem iB{c:Code}{σ τ:PS}{e:Ex}(t:Tr Tryz.prog Tb)(h:uS TT c σ t (Ea e τ)=t.ex fun t=>DC τ t .nil):
 Sp Tryz.prog Tb c σ (fun e' τ'=>e'=e/\τ'=τ):=Sp.tr J6 mixed t h
abbrev ju(k:Nat)(fn:Func)(σ:PS)(e:Ex)(τ:PS):Prop:=Sp Tryz.prog Tb (.loop (aaa k fn)) σ (fun e' τ'=>e'=e/\τ'=τ)
open Go.RowKit Fp Pu
def TW(nl:Bool)(n N:Nat)(el:Nat->Nat->E)(g:FuncId)(cap:List E)(i:Nat):PS:=⟨19,false,[(8,.e (iP i)),(7,.e (iP n)),(0,.e (.sl nl n 1 el)),(1,.e (.fn g cap))],[]⟩
def TV(nl:Bool)(n:Nat)(el:Nat->Nat->E)(g:FuncId)(cap:List E)(i:Nat):PS:=⟨19,false,[(8,.e (iP i)),(7,.e (iP n)),(0,.e (.sl nl n 1 el)),(1,.e (.fn g cap))],[]⟩
def Uh(nl:Bool)(n:Nat)(el:Nat->Nat->E)(g:FuncId)(cap:List E)(i:Nat):PS:=⟨19,false,[(8,.e (iP i)),(7,.e (iP n)),(0,.e (.sl nl n 1 el)),(1,.e (.fn g cap))],[]⟩
def Ub(nl:Bool)(n N:Nat)(el:Nat->Nat->E)(g:FuncId)(cap:List E)(i:Nat):PS:=⟨19,false,[(8,.e (iP i)),(7,.e (iP n)),(0,.e (.sl nl n 7 el)),(1,.e (.fn g cap))],[]⟩
def Ua(nl:Bool)(n:Nat)(el:Nat->Nat->E)(g:FuncId)(cap:List E)(i:Nat):PS:=⟨19,false,[(8,.e (iP i)),(7,.e (iP n)),(0,.e (.sl nl n 7 el)),(1,.e (.fn g cap))],[]⟩
def WQ(nl:Bool)(n:Nat)(el:Nat->Nat->E)(g:FuncId)(cap:List E)(i:Nat):PS:=⟨19,false,[(8,.e (iP i)),(7,.e (iP n)),(0,.e (.sl nl n 1 el)),(1,.e (.fn g cap))],[]⟩
theorem qI{p:Nat->Bool}{n:Nat}(h:∃ i,i<n/\p i=true):∃ N,N<n/\p N=true/\∀ i,i<N->p i=false:=by
 induction n with
 |zero=>obtain⟨i,h1,_⟩:=h;omega
 |succ n ih=>
  by_cases hn:∃ i,i<n/\p i=true
  .obtain ⟨N,h1,h2,h3⟩:=ih hn;exact⟨N,ae,h2,h3⟩
  .obtain ⟨i,h1,h2⟩:=h
   have:i=n:=by
    by_cases q:i=n
    .exact q
    .exact absurd ⟨i,ae,h2⟩ hn
   subst this;exact⟨i,h1,h2,fun j hj=>by simpa using fun q=>hn ⟨j,hj,q⟩⟩
theorem afv(nl:Bool)(n:Nat)(el:Nat->Nat->E)(g:FuncId)(cap:List E)(p:Nat->Bool)(hp:∀ i,i<n->gU g ((el i 0)::cap) (bP (p i)))(N:Nat)(hl:n<=1000000)(mG:N<n)(iH:∀ i,i<N->p i=false)(hN:p N=true):gU 170 [.sl nl n 1 el,.fn g cap] (iP N):=by
 exact tr false Tryz.call170 Tryz.func170 (chain [.s (Sp.jx (TW nl n N el g cap) 0 N ae (fun i hi pL=>by
    exact iB (chain [tT 9 ((i:Int)<(n:Int)) ae,iX ((i:Int)) (n) ae,.c (hp i ae:gU g ((el i 0)::cap) _),tB 16 (iH i ae:(p i)=false),iq ((i:Int)+1) ae]<|.nil) ah)
  (fun hi=>by
    exact iB (chain [tT 9 ((N:Int)<(n:Int)) ae,iX ((N:Int)) (n) ae,.c (hp N ae:gU g ((el N 0)::cap) _),tB 16 (hN:(p N)=true)]<|.nil) ah) ak:ju 2 Tryz.f170 (TW nl n N el g cap 0) .ret ⟨19,false,[(4,.e (iP N))],[]⟩) .nil]<|.nil) ah 
theorem afx(nl:Bool)(n:Nat)(el:Nat->Nat->E)(g:FuncId)(cap:List E)(p:Nat->Bool)(hp:∀ i,i<n->gU g ((el i 0)::cap) (bP (p i)))(hl:n<=1000000)(iH:∀ i,i<n->p i=false):gU 170 [.sl nl n 1 el,.fn g cap] (iP (-1)):=by
 exact tr false Tryz.call170 Tryz.func170 (chain [.s (Sp.jx (TV nl n el g cap) 0 n ae (fun i hi pL=>by
    exact iB (chain [tT 9 ((i:Int)<(n:Int)) ae,iX ((i:Int)) (n) ae,.c (hp i ae:gU g ((el i 0)::cap) _),tB 16 (iH i ae:(p i)=false),iq ((i:Int)+1) ae]<|.nil) ah)
  (fun hi=>by
    exact iB (chain [tF 9 ((n:Int)<(n:Int)) ae]<|.nil) ah) ak:ju 2 Tryz.f170 (TV nl n el g cap 0) (.exit 0) ⟨19,false,[],[]⟩) .nil]<|.nil) ah 
theorem afw(nl:Bool)(n:Nat)(el:Nat->Nat->E)(g:FuncId)(cap:List E)(p:Nat->Bool)(hp:∀ i,i<n->gU g ((el i 0)::cap) (bP (p i)))(N:Nat)(hl:n<=1000000)(mG:N<n)(iH:∀ i,i<N->p i=false)(hN:p N=true):gU 134 [.sl nl n 1 el,.fn g cap] (bP true):=by
 exact tr false Tryz.call134 Tryz.func134 (chain [.c (afv nl n el g cap p hp N hl mG iH hN:gU 170 [(.sl nl n 1 el),(.fn g cap)] _),tT 8 (0<=(N:Int)) ae]<|.nil) ah 
theorem MB(nl:Bool)(n:Nat)(el:Nat->Nat->E)(g:FuncId)(cap:List E)(p:Nat->Bool)(hp:∀ i,i<n->gU g ((el i 0)::cap) (bP (p i)))(hl:n<=1000000)(iH:∀ i,i<n->p i=false):gU 134 [.sl nl n 1 el,.fn g cap] (bP false):=by
 exact tr false Tryz.call134 Tryz.func134 (chain [.c (afx nl n el g cap p hp hl iH:gU 170 [(.sl nl n 1 el),(.fn g cap)] _),tB 8 (ag:(decide ((0:Int)<=(-1)))=false)]<|.nil) ah 
theorem afu(nl:Bool)(n:Nat)(el:Nat->Nat->E)(g:FuncId)(cap:List E)(p:Nat->Bool)(hp:∀ i,i<n->gU g ((el i 0)::cap) (bP (p i)))(hl:n<=1000000):gU 134 [.sl nl n 1 el,.fn g cap] (bP ((List.range n).any p)):=by
 by_cases h:∃ i,i<n/\p i=true
 .obtain ⟨N,h1,h2,h3⟩:∃ N,N<n/\p N=true/\∀ i,i<N->p i=false:=qI h
  refine(afw nl n el g cap p hp N hl h1 h3 h2).jV (.iU ?_);rw[di.2 ⟨N,bJ.2 h1,h2⟩]
 .refine (MB nl n el g cap p hp hl fun i hi=>by simpa using fun q=>h ⟨i,hi,q⟩).jV (.iU ?_)
  rw[dX.2 fun i hi q=>h ⟨i,bJ.1 hi,q⟩]
theorem age(nl:Bool)(n:Nat)(el:Nat->Nat->E)(g:FuncId)(cap:List E)(p:Nat->Bool)(hp:∀ i,i<n->gU g ((el i 0)::cap) (bP (p i)))(hl:n<=1000000)(iH:∀ i,i<n->p i=false):gU 233 [.sl nl n 1 el,.fn g cap] (iP (-1)):=by
 exact tr false Tryz.call233 Tryz.func233 (chain [.s (Sp.jx (Uh nl n el g cap) 0 n ae (fun i hi pL=>by
    exact iB (chain [tT 9 ((i:Int)<(n:Int)) ae,iX ((i:Int)) (n) ae,.c (hp i ae:gU g ((el i 0)::cap) _),tB 16 (iH i ae:(p i)=false),iq ((i:Int)+1) ae]<|.nil) ah)
  (fun hi=>by
    exact iB (chain [tF 9 ((n:Int)<(n:Int)) ae]<|.nil) ah) ak:ju 2 Tryz.f233 (Uh nl n el g cap 0) (.exit 0) ⟨19,false,[],[]⟩) .nil]<|.nil) ah 
theorem Uk(nl:Bool)(n:Nat)(el:Nat->Nat->E)(g:FuncId)(cap:List E)(p:Nat->Bool)(hp:∀ i,i<n->gU g ((el i 0)::cap) (bP (p i)))(hl:n<=1000000)(iH:∀ i,i<n->p i=false):gU 202 [.sl nl n 1 el,.fn g cap] (bP false):=by
 exact tr false Tryz.call202 Tryz.func202 (chain [.c (age nl n el g cap p hp hl iH:gU 233 [(.sl nl n 1 el),(.fn g cap)] _),tB 8 (ag:(decide ((0:Int)<=(-1)))=false)]<|.nil) ah 
theorem afN(nl:Bool)(n:Nat)(el:Nat->Nat->E)(g:FuncId)(cap:List E)(p:Nat->Bool)(hp:∀ i,i<n->gU g ((.agg [(el i 0),(el i 1),(el i 2),(el i 3),(el i 4),(el i 5),(el i 6)])::cap) (bP (p i)))(N:Nat)(hl:n<=1000000)(mG:N<n)(iH:∀ i,i<N->p i=false)(hN:p N=true):gU 51 [.sl nl n 7 el,.fn g cap] (iP N):=by
 exact tr false Tryz.call51 Tryz.func51 (chain [.s (Sp.jx (Ub nl n N el g cap) 0 N ae (fun i hi pL=>by
    exact iB (chain [tT 9 ((i:Int)<(n:Int)) ae,iX ((i:Int)) (n) ae,.c (hp i ae:gU g ((.agg [(el i 0),(el i 1),(el i 2),(el i 3),(el i 4),(el i 5),(el i 6)])::cap) _),tB 16 (iH i ae:(p i)=false),iq ((i:Int)+1) ae]<|.nil) ah)
  (fun hi=>by
    exact iB (chain [tT 9 ((N:Int)<(n:Int)) ae,iX ((N:Int)) (n) ae,.c (hp N ae:gU g ((.agg [(el N 0),(el N 1),(el N 2),(el N 3),(el N 4),(el N 5),(el N 6)])::cap) _),tB 16 (hN:(p N)=true)]<|.nil) ah) ak:ju 2 Tryz.f51 (Ub nl n N el g cap 0) .ret ⟨19,false,[(4,.e (iP N))],[]⟩) .nil]<|.nil) ah 
theorem afP(nl:Bool)(n:Nat)(el:Nat->Nat->E)(g:FuncId)(cap:List E)(p:Nat->Bool)(hp:∀ i,i<n->gU g ((.agg [(el i 0),(el i 1),(el i 2),(el i 3),(el i 4),(el i 5),(el i 6)])::cap) (bP (p i)))(hl:n<=1000000)(iH:∀ i,i<n->p i=false):gU 51 [.sl nl n 7 el,.fn g cap] (iP (-1)):=by
 exact tr false Tryz.call51 Tryz.func51 (chain [.s (Sp.jx (Ua nl n el g cap) 0 n ae (fun i hi pL=>by
    exact iB (chain [tT 9 ((i:Int)<(n:Int)) ae,iX ((i:Int)) (n) ae,.c (hp i ae:gU g ((.agg [(el i 0),(el i 1),(el i 2),(el i 3),(el i 4),(el i 5),(el i 6)])::cap) _),tB 16 (iH i ae:(p i)=false),iq ((i:Int)+1) ae]<|.nil) ah)
  (fun hi=>by
    exact iB (chain [tF 9 ((n:Int)<(n:Int)) ae]<|.nil) ah) ak:ju 2 Tryz.f51 (Ua nl n el g cap 0) (.exit 0) ⟨19,false,[],[]⟩) .nil]<|.nil) ah 
theorem afO(nl:Bool)(n:Nat)(el:Nat->Nat->E)(g:FuncId)(cap:List E)(p:Nat->Bool)(hp:∀ i,i<n->gU g ((.agg [(el i 0),(el i 1),(el i 2),(el i 3),(el i 4),(el i 5),(el i 6)])::cap) (bP (p i)))(N:Nat)(hl:n<=1000000)(mG:N<n)(iH:∀ i,i<N->p i=false)(hN:p N=true):gU 17 [.sl nl n 7 el,.fn g cap] (bP true):=by
 exact tr false Tryz.call17 Tryz.func17 (chain [.c (afN nl n el g cap p hp N hl mG iH hN:gU 51 [(.sl nl n 7 el),(.fn g cap)] _),tT 8 (0<=(N:Int)) ae]<|.nil) ah 
theorem BC(nl:Bool)(n:Nat)(el:Nat->Nat->E)(g:FuncId)(cap:List E)(p:Nat->Bool)(hp:∀ i,i<n->gU g ((.agg [(el i 0),(el i 1),(el i 2),(el i 3),(el i 4),(el i 5),(el i 6)])::cap) (bP (p i)))(hl:n<=1000000)(iH:∀ i,i<n->p i=false):gU 17 [.sl nl n 7 el,.fn g cap] (bP false):=by
 exact tr false Tryz.call17 Tryz.func17 (chain [.c (afP nl n el g cap p hp hl iH:gU 51 [(.sl nl n 7 el),(.fn g cap)] _),tB 8 (ag:(decide ((0:Int)<=(-1)))=false)]<|.nil) ah 
theorem MJ(nl:Bool)(n:Nat)(el:Nat->Nat->E)(g:FuncId)(cap:List E)(p:Nat->Bool)(hp:∀ i,i<n->gU g ((.agg [(el i 0),(el i 1),(el i 2),(el i 3),(el i 4),(el i 5),(el i 6)])::cap) (bP (p i)))(hl:n<=1000000):gU 17 [.sl nl n 7 el,.fn g cap] (bP ((List.range n).any p)):=by
 by_cases h:∃ i,i<n/\p i=true
 .obtain ⟨N,h1,h2,h3⟩:∃ N,N<n/\p N=true/\∀ i,i<N->p i=false:=qI h
  refine(afO nl n el g cap p hp N hl h1 h3 h2).jV (.iU ?_);rw[di.2 ⟨N,bJ.2 h1,h2⟩]
 .refine (BC nl n el g cap p hp hl fun i hi=>by simpa using fun q=>h ⟨i,hi,q⟩).jV (.iU ?_)
  rw[dX.2 fun i hi q=>h ⟨i,bJ.1 hi,q⟩]
theorem ajL(nl:Bool)(n:Nat)(el:Nat->Nat->E)(g:FuncId)(cap:List E)(p:Nat->Bool)(hp:∀ i,i<n->gU g ((el i 0)::cap) (bP (p i)))(hl:n<=1000000)(iH:∀ i,i<n->p i=false):gU 176 [.sl nl n 1 el,.fn g cap] (iP (-1)):=by
 exact tr false Tryz.call176 Tryz.func176 (chain [.s (Sp.jx (WQ nl n el g cap) 0 n ae (fun i hi pL=>by
    exact iB (chain [tT 9 ((i:Int)<(n:Int)) ae,iX ((i:Int)) (n) ae,.c (hp i ae:gU g ((el i 0)::cap) _),tB 16 (iH i ae:(p i)=false),iq ((i:Int)+1) ae]<|.nil) ah)
  (fun hi=>by
    exact iB (chain [tF 9 ((n:Int)<(n:Int)) ae]<|.nil) ah) ak:ju 2 Tryz.f176 (WQ nl n el g cap 0) (.exit 0) ⟨19,false,[],[]⟩) .nil]<|.nil) ah 
theorem ajJ(nl:Bool)(n:Nat)(el:Nat->Nat->E)(g:FuncId)(cap:List E)(p:Nat->Bool)(hp:∀ i,i<n->gU g ((el i 0)::cap) (bP (p i)))(hl:n<=1000000)(iH:∀ i,i<n->p i=false):gU 143 [.sl nl n 1 el,.fn g cap] (bP false):=by
 exact tr false Tryz.call143 Tryz.func143 (chain [.c (ajL nl n el g cap p hp hl iH:gU 176 [(.sl nl n 1 el),(.fn g cap)] _),tB 8 (ag:(decide ((0:Int)<=(-1)))=false)]<|.nil) ah 
end Go.Proofs.YtdgnpeddgdclhaaGreatDoor
