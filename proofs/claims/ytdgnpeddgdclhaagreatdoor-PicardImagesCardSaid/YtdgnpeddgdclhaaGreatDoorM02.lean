/- Lemmas that the last file uses. -/
import Derived.Test.YtdgnpeddgdclhaaGreatDoorM01
import Derived.Deep.DeepCutAuto
import Derived.Deep.Slices
import Derived.Carry
import Derived.Scope
set_option linter.unusedSimpArgs false
set_option linter.unusedVariables false
set_option linter.defProp false
set_option maxHeartbeats 4000000
namespace Go.Proofs.YtdgnpeddgdclhaaGreatDoor
open Go.RowKit Fp
theorem MZ(n c:Nat)(hc:n<=c)(hn:c<=10000000000)(w:World):
 (Instr.makeSlice 29 (.int .i64 (n:Int)) (.int .i64 (c:Int))).run Tryz.prog w = .ok (.slice (some ⟨w.heap.size,0,none⟩) n c) (w.alloc (.cells (nX (List.replicate c 0)).toArray 79)):=by
 obtain⟨i,hi,hz,h1,h2⟩:=info_parts MA;have hr:=run_make (P:=Tryz.prog) w 29 79 i _ Tryz.underlying29 hi hz .i64 .i64 n c ae ae (by rw[h2];omega) ae;rw[hr,fA,fA,h1,bO];refine congrArg (fun cs=>Result.ok (Value.slice (some ⟨w.heap.size,0,none⟩) n c) (w.alloc (.cells cs 79))) ?_;apply Array.ext
 .simp [madeCells,nX]
 .intro i h1 h2
  simp[madeCells,nX,Value.cells,cH]
theorem Ow.xm(w:World)(base n c:Nat)(hb:base<=w.heap.size)(hc:n<=c)(hn:c<=10000000000):
 Ow (w.alloc (.cells (nX (List.replicate c 0)).toArray 79)) base (.slice (some ⟨w.heap.size,0,none⟩) n c) (List.replicate n 0):=
 ⟨⟨by simp[nX],.inr ⟨w.heap.size,c,_,aj,hb,heap_alloc_new w _,by simpa using hc,by simp only[maxLen];omega,by simp[nX],by
  simp[nX,List.take_replicate,cR hc]⟩⟩,iC.BQ n⟩
theorem iy.own{w w1 w2:World}(h:iy w w1)(v:Value)(L:List Nat)(ho:Ow w1 w.heap.size v L)(hg:w1.grownBy w2 v.ownBlock):iy w w2:=
 h.grown hg h.size (fun k hk=>(ho.row.lt k hk).1)
theorem Ol(x q s:Nat)(hx:x<4294967296)(hs:s<32)(hq:q<2^s):
 bits BinOp.or IntKind.u64 (IntKind.u64.wrap ((x:Int)*2^s)) (q:Int)=((x*2^s+q:Nat):Int)/\x*2^s+q<18446744073709551616/\(x*2^s+q)/4294967296<2^s:=by
 have hp:2^s<=2^31:=bh ag ae;have e31:(2:Nat)^31=2147483648:= ag ;have h1:(x+1)*2^s<=4294967296*2^s:=bC _ hx;rw[bK,bJ]at h1;have h2:x*2^s<4294967296*2^s:=cC hx (aY ag);refine⟨?_,ae,ae⟩;have e:((x:Int)*2^s)=((x*2^s:Nat):Int):= aj ;rw[e,IntKind.wrap_u64,show((x*2^s:Nat):Int)%18446744073709551616=((x*2^s:Nat):Int)by omega,JP _ _ ae ae,fG,Aq q x s hq,dR]
theorem U6(A:Option Addr)(c:Nat)(L:List Nat)(n:Nat)(w:World)(hs:Sl w A c L)(hlen:L.length<=100000000)(hn:n<=65536):
 Calls Tryz.prog 204 #[.slice A L.length c,.int .i64 n] w (fun e w'=>∃ T,val T=val L*2^n/\iC T/\T.length=n/32+(ij L).length+1/\sO w T e w'):=by
 have hT:=Lib.hid (ud A c L w hs);have ky:=hs.tk;have ns:=oG L;have hC:=ky.cap;have hL:=hs.pV;unfold lQ at ns;have hv:=Lib.hid (oo L);generalize ij L=M at *
 obtain⟨m,hm⟩:∃ m,m=M.length:=⟨_,rfl⟩
 rw[<-hm]at hT ns hC;have HM:=Lib.hid hm;clear hm;have oR:=MZ (n/32) (n/32+m+1) ae ae;rw[show((n/32:Nat):Int)=(n:Int)/32 by omega,show((n/32+m+1:Nat):Int)=(n:Int)/32+m+1 by omega]at oR;have El:=Lib.hid (Ow.xm w w.heap.size (n/32) (n/32+m+1) (aU _) ae ae);go_enter Tryz.func204,Tryz.ntmps204;go_wp2_with fail;refine hT.out.mono ?_;rintro e w' ⟨rfl,rfl⟩;go_wp2;go_loopw [5,6,23] (fun v cy i wr=>∃ (k q:Nat) (O:List Nat),k<=m/\i = .int .i64 k/\cy = .int .u64 q/\q<2^(n%32)/\O.length=n/32+k/\val O+4294967296^(n/32+k)*q=val (M.take k)*2^(n%32)*4294967296^(n/32)/\Ow wr w.heap.size v O/\iy w wr) (fun _ _ i _=>m-(intOf i).toNat)
 case atStart=>
  exact⟨0,0,List.replicate (n/32) 0,bL _,rfl,rfl,aY ag,aj,by simp[y4],El.out,iy.alloc _ _⟩
 case round=>
  obtain⟨k,q,O,hk,rfl,rfl,hq,hO,kW,k0,hb⟩:=hrel;have HV:=Lib.hid kW;have HO:=Lib.hid hO;have Ek:O.length<=200000000:= ae ;have tR:=Lib.hid hq;clear kW hO hq;obtain⟨OA,Oc,rfl,yl⟩:=k0.sl;by_cases iD:k<m
  .have oQ:k<M.length:=by have:=HM.out;omega
   obtain⟨ab,ao,rfl,_,c1⟩:=(ky.below hb).ln oQ;have my:M[k]<4294967296:=ky.ok.get oQ;have HX:=Lib.hid (Oj (c:=q) (s:=n%32) (n0:=n/32) oQ HO.out HV.out);generalize M[k]=x at *
   obtain⟨hw,yy,s9⟩:=Ol x q (n%32) my (bg _ ag) tR.out;generalize x*2^(n%32)+q=z at *
   have EN:=Lib.hid s9;clear s9;have lI:O.length+[z%4294967296].length<=10000000000:= av ;go_wp2_with (at_builtin;go_must (refine qQ ai _ _ ai w.heap.size _ O ai (k0.alloc _) _ _ _ [z%4294967296] ai ai (Sl.sJ _ _ (z%4294967296) ae ae) lI (pU hb.size _) ?_);intro v' w1 oq hg oO)
   go_roundw
   case rel=>
    exact⟨k+1,z/4294967296,O++[z%4294967296],ae,by go_num,by go_num,EN.out,by rw[cg,HO.out];rfl,HX.out,oq,(hb.trans (iy.alloc _ _)).own _ _ (k0.alloc _) hg⟩
   case measure=>simp[intOf];omega
  .obtain rfl:k=m:= ae 
   have lI:O.length+[q].length<=10000000000:= av ;have Iw:q<4294967296:=by
    have:=tR.out;have hp:2^(n%32)<=2^31:=bh ag ae;have e31:(2:Nat)^31=2147483648:= ag ;omega
   have Td:(q:Int)%4294967296=q:= ae ;go_wp2_with (at_builtin;go_must (refine qQ ai _ _ ai w.heap.size _ O ai (k0.alloc _) _ _ _ [q] ai ai (Sl.sJ _ _ q ae ae) lI (pU hb.size _) ?_);intro v' w1 oq hg oO)
   obtain⟨A',c',rfl,mJ⟩:=oq.sl;go_ret;refine⟨O++[q],?_,mJ.ok,by rw[cg,HO.out,<-HM.out];rfl,A',c',rfl,mJ,(hb.trans (iy.alloc _ _)).own _ _ (k0.alloc _) hg⟩;have h:=HV.out;rw[ck (by rw[HM.out];exact aU _)]at h;rw[uw,HO.out,qp,yZ,cr,bt,h,<-hv.out,nD,bc,<-aV];congr 2;omega
theorem UY(A:Option Addr)(c:Nat)(L:List Nat)(n:Nat)(w:World)(hs:Sl w A c L)(hlen:L.length<=256)(hn:n<=65536)(od:(gU (val L*2^n)).length<=256):
 Calls Tryz.prog 168 #[.slice A L.length c,.int .i64 n] w (B7 w (gU (val L*2^n)) 0):=by
 have H1:=Lib.hid (fun w (h:Sl w A c L)=>U6 A c L n w h ae hn);obtain⟨R,hR⟩:∃ R,R=gU (val L*2^n):=⟨_,rfl⟩
 rw[<-hR]at od ⊢;have HR:=Lib.hid hR;clear hR;go_enter Tryz.func168,Tryz.ntmps168;go_wp2_with fail;refine(MW _ A _ c _ false (O3 _ _ _ _) av).mono ?_;rintro e w' ⟨rfl,rfl⟩;go_wp2_with fail;refine(H1.out _ (hs.alloc _)).mono ?_;rintro e w' ⟨T,hT,Em,-,A',c',rfl,mJ,hb⟩;have h3:=Lib.hid (show ij T=R by rw[qo Em,hT,HR.out]);clear hT Em;go_wp2_with fail;refine(Fg A' c' T _ mJ (by rw[h3.out];exact od)).mono ?_;rintro e w'' ⟨A'',c'',rfl,qA,mo⟩;go_wp2;go_ret2;rw[<-h3.out];exact⟨A'',c'',rfl,qA,(iy.alloc _ _).trans (hb.trans mo)⟩
theorem akf(A:Option Addr)(c:Nat)(L:List Nat)(n:Nat)(w:World)(hs:Sl w A c L)(hlen:L.length<=256)(hn:n<=65536)(od:(gU (val L*2^n)).length<=256):
 Calls Tryz.prog 132 #[.slice A L.length c,.int .i64 n] w (sO w (gU (val L*2^n))):=by
 have H1:=Lib.hid (UY A c L n w hs hlen hn od);generalize gU (val L*2^n)=R at *
 go_enter Tryz.func132,Tryz.ntmps132;go_wp2_with fail;refine H1.out.mono ?_;rintro e w'' ⟨A'',c'',rfl,qA,mo⟩;go_wp2;go_ret;exact⟨A'',c'',rfl,qA,mo⟩
open Go.RowKit Fp
theorem OH(a b:Nat)(ha:a<18446744073709551616)(hb:b<18446744073709551616):bits .and .u64 (a:Int) (b:Int)=((a &&& b:Nat):Int):=by
 have hx:a &&& b<2^64:=fe _ ae;have h1:(BitVec.ofInt 64 (a:Int)).toNat=a:=by
  rw[gh,gi];exact bu ae 
 have h2:(BitVec.ofInt 64 (b:Int)).toNat=b:=by
  rw[gh,gi];exact bu ae 
 show IntKind.u64.wrap ((BitVec.ofInt 64 (a:Int) &&& BitVec.ofInt 64 (b:Int)).toNat:Int)=_;rw[BitVec.toNat_and,h1,h2,IntKind.wrap_u64];omega
theorem vC(z:Nat)(hz:z<18446744073709551616):bits BinOp.and IntKind.u64 (z:Int) 4294967295=(z:Int)%4294967296:=by
 have e:(4294967295:Int)=((4294967295:Nat):Int):=rfl;rw[e,OH z _ hz ae,show(4294967295:Nat)=2^32-1 by decide,amO];simp
theorem aja(A:Option Addr)(c:Nat)(M:List Nat)(n:Nat)(w:World)(ky:Sl w A c M)(hlen:M.length<=1000)(hn:n<=65536):
 Calls Tryz.prog 148 #[.slice A M.length c,.int .i64 n] w (sO w (gU (val M*2^n))):=by
 have hC:=ky.cap;have hL:=ky.pV;obtain⟨m,hm⟩:∃ m,m=M.length:=⟨_,rfl⟩
 rw[<-hm]at hlen hC ⊢;have HM:=Lib.hid hm;clear hm;have oR:=MZ (n/32) (n/32) ae ae;rw[show((n/32:Nat):Int)=(n:Int)/32 by omega]at oR;have El:=Lib.hid (Ow.xm w w.heap.size (n/32) (n/32) (aU _) ae ae);go_enter Tryz.func148,Tryz.ntmps148;go_wp2;go_loopw [5,6,7] (fun v cy i wr=>∃ (k q:Nat) (O:List Nat),k<=m/\i = .int .i64 k/\cy = .int .u64 q/\q<2^(n%32)/\O.length=n/32+k/\val O+4294967296^(n/32+k)*q=val (M.take k)*2^(n%32)*4294967296^(n/32)/\Ow wr w.heap.size v O/\iy w wr) (fun _ _ i _=>m-(intOf i).toNat)
 case atStart=>
  exact⟨0,0,List.replicate (n/32) 0,bL _,rfl,rfl,aY ag,aj,by simp[y4],El.out,iy.alloc _ _⟩
 case round=>
  obtain⟨k,q,O,hk,rfl,rfl,hq,hO,kW,k0,hb⟩:=hrel;have HV:=Lib.hid kW;have HO:=Lib.hid hO;have Ek:O.length<=3100:= ae ;have tR:=Lib.hid hq;clear kW hO hq;obtain⟨OA,Oc,rfl,yl⟩:=k0.sl;by_cases iD:k<m
  .have oQ:k<M.length:=by have:=HM.out;omega
   obtain⟨ab,ao,rfl,_,c1⟩:=(ky.below hb).ln oQ;have my:M[k]<4294967296:=ky.ok.get oQ;have HX:=Lib.hid (Oj (c:=q) (s:=n%32) (n0:=n/32) oQ HO.out HV.out);generalize M[k]=x at *
   obtain⟨hw,yy,s9⟩:=Ol x q (n%32) my (bg _ ag) tR.out;generalize x*2^(n%32)+q=z at *
   have EN:=Lib.hid s9;clear s9;have lI:O.length+[z%4294967296].length<=10000000000:= av ;have tK:=vC z yy;go_wp2_with (at_builtin;go_must (refine qQ ai _ _ ai w.heap.size _ O ai (k0.alloc _) _ _ _ [z%4294967296] ai ai (Sl.sJ _ _ (z%4294967296) ae ae) lI (pU hb.size _) ?_);intro v' w1 oq hg oO)
   go_roundw
   case rel=>
    exact⟨k+1,z/4294967296,O++[z%4294967296],ae,by go_num,by go_num,EN.out,by rw[cg,HO.out];rfl,HX.out,oq,(hb.trans (iy.alloc _ _)).own _ _ (k0.alloc _) hg⟩
   case measure=>simp[intOf];omega
  .obtain rfl:k=m:= ae 
   have lI:O.length+[q].length<=10000000000:= av ;have Iw:q<4294967296:=by
    have:=tR.out;have hp:2^(n%32)<=2^31:=bh ag ae;have e31:(2:Nat)^31=2147483648:= ag ;omega
   have Td:(q:Int)%4294967296=q:= ae ;have vU:Hid (ij (O++[q])=gU (val M*2^n)):=by
    show ij (O++[q])=gU (val M*2^n);rw[qo (k0.ok.append (iC.cons Iw iC.nil))];have h:=HV.out;rw[ck (by rw[HM.out];exact aU _)]at h;rw[uw,HO.out,qp,yZ,cr,bt,h,nD,bc,<-aV];congr 3;omega
   go_wp2_with (at_builtin;go_must (refine qQ ai _ _ ai w.heap.size _ O ai (k0.alloc _) _ _ _ [q] ai ai (Sl.sJ _ _ q ae ae) lI (pU hb.size _) ?_);intro v' w1 oq hg oO;obtain⟨P,hP⟩:∃ P,P=O++[q]:=⟨_,rfl⟩;rw[<-hP]at oq vU;have Hu:P.length<=3101:=(by rw[hP];simp;omega);clear hP;obtain⟨A',c',rfl,mJ⟩:=oq.sl)
   refine(BP A' c' P _ mJ ae).mono ?_;rintro e w' ⟨A'',c'',rfl,qA,mo⟩;go_wp2;go_ret;rw[<-vU.out];exact⟨A'',c'',rfl,qA,((hb.trans (iy.alloc _ _)).own _ _ (k0.alloc _) hg).trans mo⟩
open Go.RowKit Fp
theorem akp(x y s:Nat)(hx:x<4294967296)(hy:y<4294967296):
 bits BinOp.and IntKind.u64 (bits BinOp.or IntKind.u64 (x:Int) ((y:Int)*4294967296)/2^s) 4294967295=(((x+4294967296*y)/2^s%4294967296:Nat):Int):=by
 have e:((y:Int)*4294967296)=((y*2^32:Nat):Int):= aj ;rw[e,JP x (y*2^32) ae ae,Aq x y 32 ae];have h:(x+y*2^32)/2^s<18446744073709551616:=bQ (bw _ _) ae;have h2:=vC _ h;rw[show(((x+y*2^32:Nat):Int)/2^s)=(((x+y*2^32)/2^s:Nat):Int)by simp,h2];simp[a7]
theorem ako(x s:Nat)(hx:x<4294967296):bits BinOp.and IntKind.u64 ((x:Int)/2^s) 4294967295=(((x+4294967296*0)/2^s%4294967296:Nat):Int):=by
 have h:x/2^s<18446744073709551616:=bQ (bw _ _) ae;rw[show((x:Int)/2^s)=((x/2^s:Nat):Int)by simp,vC _ h];simp
theorem ajh(A:Option Addr)(c:Nat)(M:List Nat)(n:Nat)(w:World)(ky:Sl w A c M)(hlen:M.length<=3000)(hn:n<=100000):
 Calls Tryz.prog 124 #[.slice A M.length c,.int .i64 n] w (sO w (gU (val M/2^n))):=by
 have hC:=ky.cap;have hL:=ky.pV;have vU:Hid (ij (qn (n%32) (M.drop (n/32)))=gU (val M/2^n)):=by
  show _=_;rw[qo (Am _ _),JV ky.ok]
 obtain⟨R,hR⟩:∃ R,R=gU (val M/2^n):=⟨_,rfl⟩
 rw[<-hR]at vU ⊢;clear hR;obtain⟨m,hm⟩:∃ m,m=M.length:=⟨_,rfl⟩
 rw[<-hm]at hlen hC ⊢;have HM:=Lib.hid hm;clear hm;by_cases h0:m<=n/32
 .go_enter Tryz.func124,Tryz.ntmps124
  go_wp2;go_ret;have:M.drop (n/32)=[]:=dO (by rw[<-HM.out];exact h0);have h:=vU.out;rw[this]at h;rw[<-h];exact⟨none,0,rfl,Sl.nil _,iy.refl _⟩
 .obtain ⟨ab,ao,rfl,_,_⟩:=ky.ln (i:=0) (by have:=HM.out;omega)
  have hK:=ky.drop (n/32);have tE:=Lib.hid (show m-n/32=(M.drop (n/32)).length by rw[eo,HM.out]);have rC:n/32<c:= ae ;have mE:0<m-n/32:= ae ;have sW:m-n/32<=3000:= ae ;generalize M.drop (n/32)=K at *
  simp only[cJ,AN]at hK;have vO:=Lib.hid (JC (n%32) K);have LB:=Lib.hid (Xg (n%32) K);have Em:=Lib.hid (Am (n%32) K);generalize qn (n%32) K=T at *
  go_enter Tryz.func124,Tryz.ntmps124;go_wp2;go_loopw [5,6] (fun v i wr=>∃ (k:Nat) (O:List Nat),k<=m-n/32/\i = .int .i64 k/\O=T.take k/\Ow wr w.heap.size v O/\iy w wr) (fun _ i _=>m-n/32-(intOf i).toNat)
  case atStart=>
   exact⟨0,[],bL _,rfl,aj,Ow.nil _ _,iy.refl _⟩
  case round=>
   obtain⟨k,O,hk,rfl,hO,k0,hb⟩:=hrel;have Ek:O.length<=3000:=by rw[hO,bZ];omega
   have HO:=Lib.hid hO;clear hO;obtain⟨OA,Oc,rfl,yl⟩:=k0.sl;by_cases iD:k<m-n/32
   .have tI:k<K.length:=by have:=tE.out;omega
    obtain⟨ab',ao',e',_,c1⟩:=(hK.below hb).ln tI;cases e';have hg:=LB.out k tI;have my:K[k]<4294967296:=hK.ok.get tI;have HK:=Lib.hid (bd tI);by_cases zQ:k+1<m-n/32
    .have yg:k+1<K.length:=by have:=tE.out;omega
     obtain⟨ab',ao',e',_,c2⟩:=(hK.below hb).ln yg;cases e';have hy:K.getD (k+1) 0=K[k+1]:=by rw[aW,bd yg];rfl
     rw[hy]at hg;have pq:K[k+1]<4294967296:=hK.ok.get yg;have HG:=Lib.hid hg;clear hg hy;generalize K[k]=x at *
     generalize K[k+1]=y at *
     clear tI yg;have hw:=akp x y (n%32) my pq;have hz:(x+4294967296*y)/2^(n%32)%4294967296<4294967296:=bg _ ag;generalize (x+4294967296*y)/2^(n%32)%4294967296=z at *
     have lI:O.length+[z].length<=10000000000:= av ;go_wp2_with (at_builtin;go_must (refine qQ ai _ _ ai w.heap.size _ O ai (k0.alloc _) _ _ _ [z] ai ai (Sl.sJ _ _ z ae ae) lI (pU hb.size _) ?_);intro v' w1 oq hg oO)
     go_roundw
     case rel=>
      exact⟨k+1,O++[z],ae,by go_num,by rw[HO.out,amP,HG.out];rfl,oq,(hb.trans (iy.alloc _ _)).own _ _ (k0.alloc _) hg⟩
     case measure=>simp[intOf];omega
    .have hy:K.getD (k+1) 0=0:=by rw[aW,bS (by have:=tE.out;omega)];rfl
     rw[hy]at hg;have HG:=Lib.hid hg;clear hg hy;generalize K[k]=x at *
     clear tI;have hw:=ako x (n%32) my;have hz:(x+4294967296*0)/2^(n%32)%4294967296<4294967296:=bg _ ag;generalize (x+4294967296*0)/2^(n%32)%4294967296=z at *
     have lI:O.length+[z].length<=10000000000:= av ;go_wp2_with (at_builtin;go_must (refine qQ ai _ _ ai w.heap.size _ O ai (k0.alloc _) _ _ _ [z] ai ai (Sl.sJ _ _ z ae ae) lI (pU hb.size _) ?_);intro v' w1 oq hg oO)
     go_roundw
     case rel=>
      exact⟨k+1,O++[z],ae,by go_num,by rw[HO.out,amP,HG.out];rfl,oq,(hb.trans (iy.alloc _ _)).own _ _ (k0.alloc _) hg⟩
     case measure=>simp[intOf];omega
   .have hOT:Hid (ij O=R):=by
     show ij O=R;rw[HO.out,ck (by rw[vO.out,<-tE.out];omega)];exact vU.out
    go_wp2_with fail;refine(BP OA Oc O _ yl ae).mono ?_;rintro e w' ⟨A'',c'',rfl,qA,mo⟩;go_wp2;go_ret;rw[<-hOT.out];exact⟨A'',c'',rfl,qA,hb.trans mo⟩
open Go.RowKit Fp
theorem zE{L:List Nat}{k:Nat}(h:k<L.length):L.getD k 0=L[k]:=by
 rw[aW,bd h];rfl
theorem Cy{L:List Nat}{k:Nat}(h:¬k<L.length):L.getD k 0=0:=by
 rw[aW,bS ae];rfl
theorem ajd(A B:Option Addr)(c d:Nat)(L M:List Nat)(w:World)(hs:Sl w A c L)(hr:Sl w B d M)(h1:L.length<=3000)(h2:M.length<=3000):
 Calls Tryz.prog 149 #[.slice A L.length c,.slice B M.length d] w (sO w (gU (val L+val M))):=by
 have HLl:=Lib.hid (rfl:L.length=L.length);obtain⟨l,hl⟩:∃ l,l=L.length:=⟨_,rfl⟩
 obtain⟨m,hm⟩:∃ m,m=M.length:=⟨_,rfl⟩
 rw[<-hl]at h1 ⊢;rw[<-hm]at h2 ⊢;have HL:=Lib.hid hl;have HM:=Lib.hid hm;clear hl hm HLl;go_enter Tryz.func149,Tryz.ntmps149;go_wp2;go_loopw [5,6,7] (fun v cy i wr=>∃ (k q:Nat) (O:List Nat),(k<=l\/k<=m)/\i = .int .i64 k/\cy = .int .u64 q/\q<=1/\O.length=k/\val O+4294967296^k*q=val (L.take k)+val (M.take k)/\Ow wr w.heap.size v O/\iy w wr) (fun _ _ i _=>3000-(intOf i).toNat)
 case atStart=>exact⟨0,0,[],.inl (bL _),rfl,rfl,ag,rfl,aj,Ow.nil _ _,iy.refl _⟩
 case round=>
  obtain⟨k,q,O,hk,rfl,rfl,hq,hO,kW,k0,hb⟩:=hrel;have HS:=Lib.hid (YR (x:=L.getD k 0) (y:=M.getD k 0) hO kW (uy L k) (uy M k));have HV:=Lib.hid kW;have HO:=Lib.hid hO;have Ek:O.length<=3000:= ae ;have L9:k<=3000:= ae ;clear kW hO hk;obtain⟨OA,Oc,rfl,yl⟩:=k0.sl;have tK:=fun z:Nat=>fun h:z<8589934593=>vC z ae 
  by_cases hl:k<l
  .have S1:(k:Int)<l:= ae 
   have tJ:k<L.length:=by have:=HL.out;omega
   obtain⟨ab,ao,rfl,_,c1⟩:=(hs.below hb).ln tJ;have my:L[k]<4294967296:=hs.ok.get tJ;rw[zE tJ]at HS;generalize L[k]=x at *
   clear tJ;by_cases hm:k<m
   .have Io:(k:Int)<m:= ae 
    have oQ:k<M.length:=by have:=HM.out;omega
    obtain⟨bb,bo,rfl,_,c2⟩:=(hr.below hb).ln oQ;have pq:M[k]<4294967296:=hr.ok.get oQ;rw[zE oQ]at HS;generalize M[k]=y at *
    clear oQ;have oR:=tK (q+x+y) ae;simp only[er]at oR;clear tK;have lI:O.length+[(q+x+y)%4294967296].length<=10000000000:= av ;go_wp2_with (at_builtin;go_must (refine qQ ai _ _ ai w.heap.size _ O ai (k0.alloc _) _ _ _ [(q+x+y)%4294967296] ai ai (Sl.sJ _ _ ((q+x+y)%4294967296) ae ae) lI (pU hb.size _) ?_);intro v' w1 oq hg oO)
    go_roundw
    case rel=>
     exact⟨k+1,(q+x+y)/4294967296,O++[(q+x+y)%4294967296],ae,by go_num,by go_num,ae,by rw[cg,HO.out];rfl,HS.out,oq,(hb.trans (iy.alloc _ _)).own _ _ (k0.alloc _) hg⟩
    case measure=>simp[intOf];omega
   .have Io:¬(k:Int)<m:= ae 
    rw[Cy (by have:=HM.out;omega)]at HS;have oR:=tK (q+x+0) ae;simp only[er,bt]at oR;clear tK;have lI:O.length+[(q+x+0)%4294967296].length<=10000000000:= av ;go_wp2_with (at_builtin;go_must (refine qQ ai _ _ ai w.heap.size _ O ai (k0.alloc _) _ _ _ [(q+x+0)%4294967296] ai ai (Sl.sJ _ _ ((q+x+0)%4294967296) ae ae) lI (pU hb.size _) ?_);intro v' w1 oq hg oO)
    go_roundw
    case rel=>
     exact⟨k+1,(q+x+0)/4294967296,O++[(q+x+0)%4294967296],ae,by go_num,by go_num,ae,by rw[cg,HO.out];rfl,HS.out,oq,(hb.trans (iy.alloc _ _)).own _ _ (k0.alloc _) hg⟩
    case measure=>simp[intOf];omega
  .have S1:¬(k:Int)<l:= ae 
   have hlF:decide ((k:Int)<l)=false:=by simpa using S1
   rw[Cy (L:=L) (by have:=HL.out;omega)]at HS;by_cases hm:k<m
   .have Io:(k:Int)<m:= ae 
    have oQ:k<M.length:=by have:=HM.out;omega
    obtain⟨bb,bo,rfl,_,c2⟩:=(hr.below hb).ln oQ;have pq:M[k]<4294967296:=hr.ok.get oQ;rw[zE oQ]at HS;generalize M[k]=y at *
    clear oQ;have oR:=tK (q+0+y) ae;simp only[er,bt]at oR;clear tK;have lI:O.length+[(q+0+y)%4294967296].length<=10000000000:= av ;go_wp2_with (at_builtin;go_must (refine qQ ai _ _ ai w.heap.size _ O ai (k0.alloc _) _ _ _ [(q+0+y)%4294967296] ai ai (Sl.sJ _ _ ((q+0+y)%4294967296) ae ae) lI (pU hb.size _) ?_);intro v' w1 oq hg oO)
    go_roundw
    case rel=>
     exact⟨k+1,(q+0+y)/4294967296,O++[(q+0+y)%4294967296],ae,by go_num,by go_num,ae,by rw[cg,HO.out];rfl,HS.out,oq,(hb.trans (iy.alloc _ _)).own _ _ (k0.alloc _) hg⟩
    case measure=>simp[intOf];omega
   .have Io:¬(k:Int)<m:= ae 
    clear tK;have Iw:(q:Int)%4294967296=q:= ae ;have vU:Hid (ij (O++[q])=gU (val L+val M)):=by
     show ij (O++[q])=_;rw[qo (k0.ok.append (iC.cons ae iC.nil)),uw,HO.out];have h:=HV.out;rw[ck (by have:=HL.out;omega),ck (by have:=HM.out;omega)]at h;simp only[qp,yZ,cr,bt];rw[h]
    have lI:O.length+[q].length<=10000000000:= av ;go_wp2_with (at_builtin;go_must (refine qQ ai _ _ ai w.heap.size _ O ai (k0.alloc _) _ _ _ [q] ai ai (Sl.sJ _ _ q ae ae) lI (pU hb.size _) ?_);intro v' w1 oq hg oO;obtain⟨P,hP⟩:∃ P,P=O++[q]:=⟨_,rfl⟩;rw[<-hP]at oq vU;have Hu:P.length<=3001:=(by rw[hP];simp;omega);clear hP;obtain⟨A',c',rfl,mJ⟩:=oq.sl)
    refine(BP A' c' P _ mJ ae).mono ?_;rintro e w' ⟨A'',c'',rfl,qA,mo⟩;go_wp2;go_ret;rw[<-vU.out];exact⟨A'',c'',rfl,qA,((hb.trans (iy.alloc _ _)).own _ _ (k0.alloc _) hg).trans mo⟩
theorem alx(x s:Nat)(hx:x<4294967296):bits BinOp.and IntKind.u32 ((x:Int)/2^s) 1=((x/2^s%2:Nat):Int):=by
 have h:x/2^s<4294967296:=bQ (bw _ _) ae;rw[show((x:Int)/2^s)=((x/2^s:Nat):Int)by simp,show(1:Int)=((1:Nat):Int)from rfl,bits_and_u32_nat _ _ h ag,gj]
theorem ajq(A:Option Addr)(c:Nat)(L:List Nat)(w:World)(hs:Sl w A c L)(h1:L.length<=3000)(h0:val L≠0):
 Calls Tryz.prog 123 #[.slice A L.length c] w fun e w'=>e = .returned (.int .i64 (jO (val L)))/\w=w':=by
 have hz:=DX hs.ok h0;have HB:=Lib.hid (fun k (hk:k<jO (val L))=>PX h0 hk);have HE:=Lib.hid (PW h0);have HV:=Lib.hid (fun k=>Kn hs.ok k);generalize jO (val L)=t at *
 go_enter Tryz.func123,Tryz.ntmps123;go_wp2;go_loop [3] (fun i=>∃ k:Nat,k<=t/\i = .int .i64 k) (fun i=>t-(intOf i).toNat)
 case atStart=>exact⟨0,bL _,rfl⟩
 case round=>
  obtain⟨k,hk,rfl⟩:=hrel;have tJ:k/32<L.length:= ae ;obtain⟨ab,ao,rfl,_,c1⟩:=hs.ln tJ;have hv:=HV.out k tJ;have my:L[k/32]<4294967296:=hs.ok.get tJ;generalize L[k/32]=x at *
  clear HV;have sX:=alx x (k%32) my;rw[<-hv]at sX;clear hv;by_cases hkt:k<t
  .rw [HB.out k hkt]at sX
   have hb:(bits BinOp.and IntKind.u32 ((x:Int)/2^(k%32)) 1==0)=true:=by rw[sX];rfl
   clear sX;go_wp2;go_round
   case rel=>exact⟨k+1,ae,by go_num⟩
   case measure=>simp[intOf];omega
  .obtain rfl:k=t:= ae 
   rw[HE.out]at sX;have hb:(bits BinOp.and IntKind.u32 ((x:Int)/2^(k%32)) 1==0)=false:=by rw[sX];rfl
   clear sX;go_wp2;go_ret;exact⟨rfl,rfl⟩
theorem ajb(A B:Option Addr)(c d:Nat)(L M:List Nat)(w:World)(hs:Sl w A c L)(hr:Sl w B d M)(h1:L.length<=3000)(h2:M.length<=L.length)(hle:val M<=val L):
 Calls Tryz.prog 151 #[.slice A L.length c,.slice B M.length d] w (sO w (gU (val L-val M))):=by
 obtain⟨l,hl⟩:∃ l,l=L.length:=⟨_,rfl⟩
 obtain⟨m,hm⟩:∃ m,m=M.length:=⟨_,rfl⟩
 rw[<-hl]at h1 h2 ⊢;rw[<-hm]at h2 ⊢;have HL:=Lib.hid hl;have HM:=Lib.hid hm;clear hl hm;have HLE:=Lib.hid hle;clear hle;go_enter Tryz.func151,Tryz.ntmps151;go_wp2;go_loopw [5,6,7] (fun v cy i wr=>∃ (k q:Nat) (O:List Nat),k<=l/\i = .int .i64 k/\cy = .int .u64 q/\q<=1/\O.length=k/\val O+val (M.take k)=val (L.take k)+4294967296^k*q/\Ow wr w.heap.size v O/\iy w wr) (fun _ _ i _=>l-(intOf i).toNat)
 case atStart=>exact⟨0,0,[],bL _,rfl,rfl,ag,rfl,aj,Ow.nil _ _,iy.refl _⟩
 case round=>
  obtain⟨k,q,O,hk,rfl,rfl,hq,hO,kW,k0,hb⟩:=hrel;have HS:=Lib.hid (fun(x y:Nat) (e1:L.getD k 0=x) (e2:M.getD k 0=y) (dd c':Nat)=>akM (x:=x) (y:=y) (d:=dd) (c':=c') hO kW ((uy L k).trans (by rw[e1])) ((uy M k).trans (by rw[e2])));have HV:=Lib.hid kW;have HO:=Lib.hid hO;have Ek:O.length<=3000:= ae ;clear kW hO;obtain⟨OA,Oc,rfl,yl⟩:=k0.sl;by_cases hl:k<l
  .have tJ:k<L.length:=by have:=HL.out;omega
   obtain⟨ab,ao,rfl,_,c1⟩:=(hs.below hb).ln tJ;have my:L[k]<4294967296:=hs.ok.get tJ;have HX:=Lib.hid (zE tJ);generalize L[k]=x at *
   clear tJ;by_cases hm:k<m
   .have oQ:k<M.length:=by have:=HM.out;omega
    obtain⟨bb,bo,rfl,_,c2⟩:=(hr.below hb).ln oQ;have pq:M[k]<4294967296:=hr.ok.get oQ;have HY:=Lib.hid (zE oQ);generalize M[k]=y at *
    clear oQ;have oR:=vC (x+4294967296-(q+y)) ae;rw[show((x+4294967296-(q+y):Nat):Int)=(x:Int)+4294967296-(q+y)by omega]at oR;have lI:O.length+[(x+4294967296-(q+y))%4294967296].length<=10000000000:= av ;go_wp2_with (at_builtin;go_must (refine qQ ai _ _ ai w.heap.size _ O ai (k0.alloc _) _ _ _ [(x+4294967296-(q+y))%4294967296] ai ai (Sl.sJ _ _ ((x+4294967296-(q+y))%4294967296) ae ae) lI (pU hb.size _) ?_);intro v' w1 oq hg oO)
    go_roundw
    case rel=>
     exact⟨k+1,1-(x+4294967296-(q+y))/4294967296,O++[(x+4294967296-(q+y))%4294967296],ae,by go_num,by rw[show(1-((x:Int)+4294967296-(q+y))/4294967296)=((1-(x+4294967296-(q+y))/4294967296:Nat):Int)by omega],ae,by rw[cg,HO.out];rfl,HS.out x y HX.out HY.out _ _ ae,oq,(hb.trans (iy.alloc _ _)).own _ _ (k0.alloc _) hg⟩
    case measure=>simp[intOf];omega
   .have Io:¬(k:Int)<m:= ae 
    have HY:=Lib.hid (Cy (L:=M) (k:=k) (by have:=HM.out;omega));have oR:=vC (x+4294967296-q) ae;rw[show((x+4294967296-q:Nat):Int)=(x:Int)+4294967296-q by omega]at oR;have lI:O.length+[(x+4294967296-q)%4294967296].length<=10000000000:= av ;go_wp2_with (at_builtin;go_must (refine qQ ai _ _ ai w.heap.size _ O ai (k0.alloc _) _ _ _ [(x+4294967296-q)%4294967296] ai ai (Sl.sJ _ _ ((x+4294967296-q)%4294967296) ae ae) lI (pU hb.size _) ?_);intro v' w1 oq hg oO)
    go_roundw
    case rel=>
     exact⟨k+1,1-(x+4294967296-q)/4294967296,O++[(x+4294967296-q)%4294967296],ae,by go_num,by rw[show(1-((x:Int)+4294967296-q)/4294967296)=((1-(x+4294967296-q)/4294967296:Nat):Int)by omega],ae,by rw[cg,HO.out];rfl,HS.out x 0 HX.out HY.out _ _ ae,oq,(hb.trans (iy.alloc _ _)).own _ _ (k0.alloc _) hg⟩
    case measure=>simp[intOf];omega
  .obtain rfl:k=l:= ae 
   have vU:Hid (ij O=gU (val L-val M)):=by
    show ij O=_;have h:=HV.out;rw[ck (l:=L) (by have:=HL.out;omega),ck (l:=M) (by have:=HM.out;omega)]at h;rw[qo k0.ok,(XA k0.ok HO.out h HLE.out).2]
   go_wp2_with fail;refine(BP OA Oc O _ yl ae).mono ?_;rintro e w' ⟨A'',c'',rfl,qA,mo⟩;go_wp2;go_ret;rw[<-vU.out];exact⟨A'',c'',rfl,qA,hb.trans mo⟩
open Go.RowKit Fp
theorem M4{O:List Nat}{p a b c o:Nat}(ho:O[p]? = some o):
 val (O.set p ((a*b+o+c)%4294967296))+4294967296^(p+1)*((a*b+o+c)/4294967296)=val O+4294967296^p*c+4294967296^p*(a*b):=by
 obtain⟨hp,rfl⟩:=bV.1 ho;have h:=OJ (x:=(a*b+O[p]+c)%4294967296) hp;have e:=congrArg (4294967296^p * ·) (dq (a*b+O[p]+c) 4294967296);simp only[bn]at e;rw[aZ,bc];omega
theorem KB{O:List Nat}{p c o:Nat}(ho:O[p]? = some o):
 val (O.set p ((o+c)%4294967296))+4294967296^(p+1)*((o+c)/4294967296)=val O+4294967296^p*c:=by
 have h:=M4 (a:=0) (b:=0) (c:=c) ho;simpa using h
theorem aaW{i n k N c:Nat}{O a b:List Nat}(hk:val O+4294967296^k*c=val (a.take (i+1))*val b)(ha:iC a)(hb:iC b)(hi:i<a.length)(hn:b.length=n)(hc:0<c)(hN:a.length+n<N):k<N:=by
 have h1:=lY (ha.take (i+1));rw[bZ,cR ae]at h1;have h2:=lY hb;rw[hn]at h2;have h3:val (a.take (i+1))*val b<4294967296^(i+1+n):=by
  rw[aV];exact gl h1 h2
 have h4:4294967296^k*1<=4294967296^k*c:=ca _ hc;have h5:4294967296^k<4294967296^(i+1+n):= ae ;have:=(gO (ag:1<4294967296)).1 h5;omega
theorem alC(x y:Nat)(hx:x<4294967296)(hy:y<4294967296):IntKind.u64.wrap ((x:Int)*(y:Int))=((x*y:Nat):Int)/\x*y<=18446744065119617025:=by
 have h:x*y<=4294967295*4294967295:=cK ae ae;refine⟨?_,ae⟩;rw[IntKind.wrap_u64,<-dH];omega
theorem px(x:Nat)(h:x<18446744073709551616):IntKind.u64.wrap (x:Int)=(x:Int):=by rw[IntKind.wrap_u64];omega
theorem Fp.iC.Jz{L:List Nat}(h:iC L)(k:Nat)(x:Nat):iC (L.set k (x%4294967296)):=h.set k (bg _ ag)
theorem ajm(A B:Option Addr)(c d:Nat)(L M:List Nat)(w:World)(hs:Sl w A c L)(hr:Sl w B d M)(h1:L.length<=3000)(h2:M.length<=3000):
 Calls Tryz.prog 189 #[.slice A L.length c,.slice B M.length d] w (sO w (gU (val L*val M))):=by
 obtain⟨l,hl⟩:∃ l,l=L.length:=⟨_,rfl⟩
 obtain⟨m,hm⟩:∃ m,m=M.length:=⟨_,rfl⟩
 rw[<-hl]at h1 ⊢;rw[<-hm]at h2 ⊢;have HL:=Lib.hid hl;have HM:=Lib.hid hm;clear hl hm;have oR:=C8 (l+m+1) ae;rw[show((l+m+1:Nat):Int)=(l:Int)+(m:Int)+1 by omega]at oR;have uR:=Lib.hid (Rw.xm w (l+m+1));go_enter Tryz.func189,Tryz.ntmps189;go_wp2;go_loopw [6] (fun i wr=>∃ (k:Nat) (O:List Nat),k<=l/\i = .int .i64 k/\O.length=l+m+1/\iC O/\val O=val (L.take k)*val M/\Rw wr w.heap.size O/\iy w wr) (fun i _=>l-(intOf i).toNat)
 case atStart=>
  exact⟨0,List.replicate (l+m+1) 0,bL _,rfl,aj,iC.BQ _,by simp[y4],uR.out,iy.alloc _ _⟩
 case round=>
  obtain⟨i,O,hi,rfl,hO,kV,kW,hR,hb⟩:=hrel;have HV:=Lib.hid kW;have HO:=Lib.hid hO;clear kW hO;by_cases iD:i<l
  .have Ie:i<L.length:=by have:=HL.out;omega
   obtain⟨x,hx⟩:∃ x,x=L[i]:=⟨_,rfl⟩
   have HX:=Lib.hid hx;have my:x<4294967296:=by rw[hx];exact hs.ok.get Ie
   have HXc:=Lib.hid (fun w (h:Sl w A c L)=>hx▸h.ln Ie);clear hx;have HST:=Lib.hid (show val (L.take (i+1))=val (L.take i)+4294967296^i*x by rw[HX.out];exact xA L i Ie);clear HX Ie;go_wp2;obtain⟨wo,rfl⟩:∃ wo:World,wo=wr:=⟨_,rfl⟩
   go_loopw [7,8] (fun cy k wr=>∃ (j q:Nat) (O:List Nat),j<=m/\k = .int .i64 j/\cy = .int .u64 q/\q<4294967296/\O.length=l+m+1/\iC O/\val O+4294967296^(i+j)*q=val (L.take i)*val M+4294967296^i*(x*val (M.take j))/\Rw wr w.heap.size O/\iy w wr) (fun _ k _=>m-(intOf k).toNat)
   case atStart=>
    exact⟨0,0,O,bL _,rfl,rfl,ag,HO.out,kV,by simp[HV.out],hR,hb⟩
   case round=>
    clear HO HV kV hR;obtain⟨j,q,O,hj,rfl,rfl,hq,hO,kV,kW,hR,hb⟩:=hrel;have HV:=Lib.hid kW;have HO:=Lib.hid hO;clear kW hO;by_cases zQ:j<m
    .have Ig:j<M.length:=by have:=HM.out;omega
     obtain⟨y,hy⟩:∃ y,y=M[j]:=⟨_,rfl⟩
     have pq:y<4294967296:=by rw[hy];exact hr.ok.get Ig
     obtain⟨ab,ao,e1,_,c1⟩:=HXc.out _ (hs.below hb);obtain⟨bb,bo,e2,_,c2⟩:=(hr.below hb).ln Ig;have HYS:=Lib.hid (show val (M.take (j+1))=val (M.take j)+4294967296^j*y by rw[hy];exact xA M j Ig);rw[<-hy]at c2;clear hy Ig HXc;subst e1 e2;have hp:i+j<O.length:=by have:=HO.out;omega
     have ho:=bd hp;have aez:O[i+j]<4294967296:=kV.get hp;have c3:=hR.cell ho;have c4:=hR.frozen (i+j);have HS:=Lib.hid (M4 (a:=x) (b:=y) (c:=q) ho);generalize O[i+j]=o at *
     clear ho hp;have Iu:=fun v=>kV.Jz (i+j) v
     have HR2:=Lib.hid (fun v:Nat=>hR.set (i+j) v);have HE2:=Lib.hid (fun(n:Nat) (v:Value)=>(below_drewN hb n).setCell (p:=⟨w.heap.size,i+j,none⟩) (aU _) v);have HOK:=Lib.hid Iu;have HNEW:=Lib.hid (show val (L.take i)*val M+4294967296^i*(x*val (M.take (j+1)))=val (L.take i)*val M+4294967296^i*(x*val (M.take j))+4294967296^(i+j)*(x*y)by
      rw[HYS.out,bn x,bn (4294967296^i),aV,cE];congr 2;rw[cD x,bc])
     obtain⟨Br,Aa⟩:=alC x y my pq;generalize x*y=z at *
     have yy:IntKind.u64.wrap ((z:Int)+(o:Int))=(z:Int)+(o:Int):=by rw[IntKind.wrap_u64];omega
     have s9:IntKind.u64.wrap ((z:Int)+(o:Int)+(q:Int))=(z:Int)+(o:Int)+(q:Int):=by rw[IntKind.wrap_u64];omega
     have tK:=vC (z+o+q) ae;simp only[er]at tK;have wZ:IntKind.i64.wrap ((i:Int)+(j:Int))=(i:Int)+(j:Int):=i64_in _ ae ae;have vV:(0:Int)<=(i:Int)+(j:Int):= ae ;have SU:((i:Int)+(j:Int)).toNat=i+j:= ae ;have hi4:(i:Int)+(j:Int)<(l:Int)+(m:Int)+1:= ae ;go_wp2;go_quiet (fail);go_wp2;go_roundw
     case rel=>
      exact⟨j+1,(z+o+q)/4294967296,O.set (i+j) ((z+o+q)%4294967296),ae,by go_num,by go_num,ae,by rw[cv];exact HO.out,HOK.out _,by rw[HNEW.out,<-HV.out];exact HS.out,HR2.out _,HE2.out _ _⟩
     case measure=>simp[intOf];omega
    .obtain rfl:j=m:= ae 
     have HV2:=Lib.hid (show val O+4294967296^(i+j)*q=val (L.take (i+1))*val M by
      rw[HST.out,HV.out,show M.take j=M from ck (by rw[HM.out];exact aU _),bK,bc])
     clear HV;go_wp2;obtain⟨wo,rfl⟩:∃ wo:World,wo=wr:=⟨_,rfl⟩
     go_loopw [7,10] (fun cy k wr=>∃ (p q:Nat) (O:List Nat),p<=l+j+1/\k = .int .i64 p/\cy = .int .u64 q/\q<4294967296/\O.length=l+j+1/\iC O/\val O+4294967296^p*q=val (L.take (i+1))*val M/\Rw wr w.heap.size O/\iy w wr) (fun _ k _=>l+j+1-(intOf k).toNat)
     case atStart=>
      exact⟨i+j,q,O,ae,by go_num,rfl,hq,HO.out,kV,HV2.out,hR,hb⟩
     case round=>
      clear HO HV2 kV hR hq;obtain⟨p,q,O,hp,rfl,rfl,hq,hO,kV,kW,hR,hb⟩:=hrel;have HV:=Lib.hid kW;have HO:=Lib.hid hO;clear kW hO;by_cases hc:0<q
      .have hpN:p<l+j+1:=aaW HV.out hs.ok hr.ok (by have:=HL.out;omega) HM.out.symm hc (by have:=HL.out;omega)
       have Mh:p<O.length:=by have:=HO.out;omega
       have ho:=bd Mh;have aez:O[p]<4294967296:=kV.get Mh;have c3:=hR.cell ho;have c4:=hR.frozen p;have HS:=Lib.hid (KB (c:=q) ho);generalize O[p]=o at *
       clear ho Mh;have HR2:=Lib.hid (fun v:Nat=>hR.set p v);have HE2:=Lib.hid (fun v:Value=>hb.setCell (p:=⟨w.heap.size,p,none⟩) (aU _) v);have HOK:=Lib.hid (fun v=>kV.Jz p v);have tK:=vC (o+q) ae;simp only[er]at tK;have CR:decide ((q:Int)>0)=true:=aS ae;have tR:decide (0<q)=true:=aS hc;go_wp2;go_roundw
       case rel=>
        exact⟨p+1,(o+q)/4294967296,O.set p ((o+q)%4294967296),ae,by go_num,by go_num,ae,by rw[cv];exact HO.out,HOK.out _,by rw[<-HV.out];exact HS.out,HR2.out _,HE2.out _⟩
       case measure=>simp[intOf];omega
      .obtain rfl:q=0:= ae 
       go_wp2;go_roundw
       case rel=>
        exact⟨i+1,O,ae,by go_num,HO.out,kV,by rw[<-HV.out];simp,hR,hb⟩
       case measure=>simp[intOf];omega
  .obtain rfl:i=l:= ae 
   have HF:=Lib.hid (show ij O=gU (val L*val M)by
    rw[qo kV,HV.out,show L.take i=L from ck (by rw[HL.out];exact aU _)])
   have s8:=hR.sl kV (by rw[HO.out];omega);obtain⟨n,hn⟩:∃ n,n=O.length:=⟨_,rfl⟩
   have j9:i+m+1=n:=by rw[hn];exact HO.out.symm
   have hT:=Lib.hid (BP _ _ O _ s8 (by rw[HO.out];omega));rw[HO.out]at hT;clear hn j9;go_wp2_with fail;refine hT.out.mono ?_;rintro e w' ⟨A'',c'',rfl,qA,mo⟩;go_wp2;go_ret;rw[<-HF.out];exact⟨A'',c'',rfl,qA,hb.trans mo⟩
open Go.RowKit Fp
theorem FN(s:Bool)(A:Option Addr)(c:Nat)(L:List Nat)(e:Int)(w:World)(hs:Sl w A c L)(hlen:L.length<=3000)(kQ:-1000000<=e)(kx:e<=1000000):
 Calls Tryz.prog 76 #[.bool s,.slice A L.length c,.int .i64 e] w (tv w (canon s (val L) e)):=by
 by_cases h0:val L=0
 .have oD:=Lib.hid (show canon s (val L) e=jx by unfold canon;rw[aR h0];rfl)
  have Mn:ij L=[]:=by rw[qo hs.ok,h0,nh]
  have hT:=Lib.hid (fun w (h:Sl w A c L)=>BP A c L w h ae);rw[Mn]at hT;clear Mn h0;go_enter Tryz.func76,Tryz.ntmps76;go_wp2_with fail;refine(hT.out _ (hs.alloc _)).mono ?_;rintro e w' ⟨A',c',rfl,mJ,hb⟩;have bx:=(jg.new w false none 0 0 0).ext hb;have b0:=bx.c0;have b1:=bx.c1;have b2:=bx.c2;have f0:=bx.fr 0;have f1:=bx.fr 1;have f2:=bx.fr 2;go_wp2;rw[oD.out];have hz:gU jx.m=[]:=nh;exact sx rfl rfl rfl (bx.set _ _ _ _ _) (by rw[hz];rfl) (by rw[hz];exact bx.qm (Sl.nil _) _ _ _ _ _) (jg.qc ((iy.alloc _ _).trans hb) (aU _) _ _ _ _ _)
 .have oD:=Lib.hid (show canon s (val L) e=⟨s,val L/2^jO (val L),e+jO (val L)⟩by unfold canon;rw[aQ h0])
  have hT:=Lib.hid (fun w (h:Sl w A c L)=>BP A c L w h ae);have Tk:=oG L;unfold lQ at Tk;have hv:=oo L;have kV:=hs.ok.ij;generalize ij L=M at *
  rw[<-hv]at h0 oD ⊢;clear hv;have hZ:=Lib.hid (fun A c w (h:Sl w A c M)=>ajq A c M w h ae h0);have zL:jO (val M)<=100000:=by have:=DX kV h0;omega
  have hR:=Lib.hid (fun A c w (h:Sl w A c M)=>ajh A c M (jO (val M)) w h ae zL);have sC:M.length≠0:=by intro h;rw[de h]at h0;exact h0 rfl
  generalize val M/2^jO (val M)=q at *
  generalize jO (val M)=t at *
  obtain⟨m,hm⟩:∃ m,m=M.length:=⟨_,rfl⟩
  go_enter Tryz.func76,Tryz.ntmps76;go_wp2_with fail;refine(hT.out _ (hs.alloc _)).mono ?_;rintro e' w1 ⟨A1,c1,rfl,sF,iZ⟩;go_wp2_with fail;refine(hZ.out _ _ _ sF).mono ?_;rintro e' w2 ⟨rfl,rfl⟩;go_wp2_with fail;refine(hR.out _ _ _ sF).mono ?_;rintro e' w2 ⟨A2,c2,rfl,ky,mc⟩;have hb:=iZ.trans mc;have bx:=(jg.new w false none 0 0 0).ext hb;have b0:=bx.c0;have b1:=bx.c1;have b2:=bx.c2;have f0:=bx.fr 0;have f1:=bx.fr 1;have f2:=bx.fr 2;go_wp2;rw[oD.out];exact sx rfl rfl rfl (bx.set _ _ _ _ _) rfl (bx.qm ky _ _ _ _ _) (jg.qc ((iy.alloc _ _).trans hb) (aU _) _ _ _ _ _)
theorem abN(A:Option Addr)(c:Nat)(L:List Nat)(w:World)(hs:Sl w A c L)(h1:L.length<=3000)(h0:val L≠0)(hT:Tb w):
 Calls Tryz.prog 126 #[.slice A L.length c] w fun e w'=>e = .returned (.int .i64 (jO (val L)))/\w=w':=by
 have kV:=hs.ok;have HV:=Lib.hid (fun i hi h hx=>abf kV i hi h hx);have H0:=Lib.hid h0;clear h0;go_enter Tryz.func126,Tryz.ntmps126;go_wp2;go_loop [3,8] (fun n i=>∃ k:Nat,k<=L.length/\i = .int .i64 k/\n = .int .i64 ((32*k:Nat):Int)/\∀ j,(hj:j<k)->L[j]? = some 0) (fun _ i=>L.length-(intOf i).toNat)
 case atStart=>exact⟨0,bL _,rfl,rfl,fun j hj=> ae⟩
 case round=>
  obtain⟨k,hk,rfl,rfl,hz⟩:=hrel;have HZ:=Lib.hid hz;clear hz;by_cases iD:k<L.length
  .obtain ⟨ab,ao,rfl,_,c1⟩:=hs.ln iD
   have my:L[k]<4294967296:=kV.get iD;have HG:=Lib.hid (bd iD);have HC:=Lib.hid (fun hx=>HV.out k iD (fun j hj=>by have:=HZ.out j hj;rw[bd ae]at this;simpa using this) hx);clear HV;generalize L[k]=x at *
   by_cases hx:x=0
   .have HX:=Lib.hid hx;clear hx
    have hb:((x:Int) != 0)=false:=by have:=HX.out;simp;omega
    go_wp2;go_round
    case rel=>exact⟨k+1,ae,by go_num,by go_num,fun j hj=>by
     by_cases e:j=k
     .subst e;rw[HG.out,HX.out]
     .exact HZ.out j ae⟩
    case measure=>simp[intOf];omega
   .have hb:((x:Int) != 0)=true:= av 
    have HX:=Lib.hid (HC.out hx);have ams:jO x<=32:=by
     have h1:=Dh hx;rcases dG 32 (jO x)with h|h
     .have:=et (a:=2) ag h
      have e:(2:Nat)^32=4294967296:= ag ;omega
     .exact h
    go_wp2_with (go_at_call 163;refine(alu x hx my _ hT).mono ?_;rintro e w' ⟨rfl,rfl⟩)
    go_ret;exact⟨oj (by rw[HX.out];simp),rfl⟩
  .exfalso
   have:val L=0:=by
    rw[F7];intro y hy;obtain⟨j,hj,rfl⟩:=List.getElem_of_mem hy;have:=HZ.out j ae;rw[bd hj]at this;simpa using this
   exact H0.out this
open Go.RowKit Fp
theorem G8(s:Bool)(A:Option Addr)(c:Nat)(L:List Nat)(e:Int)(w:World)(hs:Sl w A c L)(_hlen:L.length<=100000)(ns:(ij L).length<=256)(kQ:-1000000<=e)(kx:e<=1000000)(kp:Tb w):
 Calls Tryz.prog 79 #[.bool s,.slice A L.length c,.int .i64 e] w (tv w (canon s (val L) e)):=by
 have hT:=Lib.hid (fun w (h:Sl w A c L)=>abT A c L w h);have ky:=hs.tk;have hv:=oo L;have kV:=hs.ok.ij;have Bo:=yX L;generalize ij L=M at *
 rw[<-hv];clear hv;by_cases h0:val M=0
 .have oD:=Lib.hid (show canon s (val M) e=jx by unfold canon;rw[aR h0];rfl)
  have sC:Hid (M.length=0):=by
   show M.length=0;rw[Bo.D9 kV,h0,nh];rfl
  obtain⟨m,hm⟩:∃ m,m=M.length:=⟨_,rfl⟩
  rw[<-hm]at hT sC;clear hm h0;obtain rfl:m=0:=sC.out;clear sC;go_enter Tryz.func79,Tryz.ntmps79;go_wp2_with fail;refine(hT.out _ (hs.alloc _)).mono ?_;rintro e w' ⟨rfl,rfl⟩;have bx:=jg.new w false none 0 0 0;have b0:=bx.c0;have b1:=bx.c1;have b2:=bx.c2;have f0:=bx.fr 0;have f1:=bx.fr 1;have f2:=bx.fr 2;go_wp2;rw[oD.out];have hz:gU jx.m=[]:=nh;exact sx rfl rfl rfl bx (by rw[hz];rfl) (by rw[hz];exact Sl.nil _) (iy.alloc _ _)
 .have oD:=Lib.hid (show canon s (val M) e=⟨s,val M/2^jO (val M),e+jO (val M)⟩by unfold canon;rw[aQ h0])
  have hZ:=Lib.hid (fun A c w (h:Sl w A c M) (ht:Tb w)=>abN A c M w h ae h0 ht);have zL:jO (val M)<=65536:=by have:=DX kV h0;omega
  have hR:=Lib.hid (fun A c w (h:Sl w A c M)=>U2 A c M (jO (val M)) w h ns zL);have sC:M.length≠0:=by intro h;rw[de h]at h0;exact h0 rfl
  have uY:(gU (val M/2^jO (val M))).length<=256:=by
   refine qX (bQ (bw _ _) ?_);exact bD (lY kV) (bh ag ns)
  generalize val M/2^jO (val M)=q at *
  generalize jO (val M)=t at *
  have hK:=Lib.hid (fun A c w (h:Sl w A c (gU q))=>KF A c (gU q) w h ae);have hP:=Lib.hid (fun A c w (h:Sl w A c (gU q))=>KE A c (gU q) w h);obtain⟨Q,hQ⟩:∃ Q,Q=gU q:=⟨_,rfl⟩
  have HQ:=Lib.hid hQ;rw[<-hQ]at hR hK hP uY;clear hQ;go_enter Tryz.func79,Tryz.ntmps79;go_wp2_with fail;refine(hT.out _ (hs.alloc _)).mono ?_;rintro e' w1 ⟨rfl,rfl⟩;go_wp2_with fail;refine(hZ.out _ _ _ (ky.alloc _) (kp.alloc _)).mono ?_;rintro e' w2 ⟨rfl,rfl⟩;go_wp2_with fail;refine(hR.out _ _ _ (ky.alloc _)).mono ?_;rintro e' w2 ⟨A2,c2,rfl,aeF,mc⟩;go_wp2_with fail;refine(hK.out _ _ _ aeF).mono ?_;rintro e' w3 ⟨A3,c3,rfl,CS,pn⟩;go_wp2_with fail;refine(hP.out _ _ _ CS).mono ?_;rintro e' w4 ⟨rfl,rfl⟩;have hb:=mc.trans pn;have bx:=(jg.new w false none 0 0 0).ext hb;have b0:=bx.c0;have b1:=bx.c1;have b2:=bx.c2;have f0:=bx.fr 0;have f1:=bx.fr 1;have f2:=bx.fr 2;go_wp2;rw[oD.out];rw[HQ.out]at CS ⊢;exact sx rfl rfl rfl (bx.set _ _ _ _ _) rfl (bx.qm CS.Qs _ _ _ _ _) (jg.qc ((iy.alloc _ _).trans hb) (aU _) _ _ _ _ _)
open Go.RowKit Fp
theorem KR(A:Option Addr)(c:Nat)(L:List Nat)(w:World)(hs:Sl w A c L)(hlen:L.length<=100000000):
 Calls Tryz.prog 161 #[.slice A L.length c] w fun e w'=>e = .returned (.int .i64 (ia (val L)))/\w=w':=by
 have H:=Lib.hid (UT A c L w hs hlen);go_enter Tryz.func161,Tryz.ntmps161;go_wp2_with fail;refine H.out.mono ?_;rintro e w' ⟨rfl,rfl⟩;go_wp2;go_ret;exact⟨rfl,rfl⟩
def tY(m:Nat)(e:Int):Bool:=decide (mP ⟨false,m,e⟩)
theorem Mz(s:Bool)(A:Option Addr)(c:Nat)(L:List Nat)(e:Int)(w:World)(hs:Sl w A c L)(hlen:L.length<=100000000)(kQ:-9223372036854775808<=e)(kx:e<=9223372036854775807):
 Calls Tryz.prog 119 #[.agg #[.bool s,.slice A L.length c,.int .i64 e]] w fun r w'=>r = .returned (.bool (tY (val L) e))/\iy w w':=by
 have H:=Lib.hid (fun w (h:Sl w A c L)=>KR A c L w h hlen);have hn:Hid (tY (val L) e=decide (ia (val L)=0\/ia (val L)<=4096 /\ -16384<=e/\e<=16384/\(ia (val L):Int)+e<=16384)):=by
  have h:ia (val L)=0↔val L=0:=by
   constructor
   .intro h;apply bE;intro h0;have:=mR h0;omega
   .intro h;rw[h];rfl
  exact amQ.2 (or_congr h.symm Iff.rfl)
 have xW:ia (val L)<=32*L.length:=kN.2 (by rw[<-nD];exact lY hs.ok);generalize ia (val L)=n at *
 generalize tY (val L) e=b at *
 have qx:n=0\/(0<n/\4096<n)\/(0<n/\n<=4096/\e < -16384)\/(0<n/\n<=4096 /\ -16384<=e/\16384<e)\/(0<n/\n<=4096 /\ -16384<=e/\e<=16384/\16384<(n:Int)+e)\/(0<n/\n<=4096 /\ -16384<=e/\e<=16384/\(n:Int)+e<=16384):= ae ;rcases qx with h|⟨h,h1⟩|⟨h,h1,h2⟩|⟨h,h1,h2,h3⟩|⟨h,h1,h2,h3,h4⟩|⟨h,h1,h2,h3,h4⟩
 .subst h
  have hb:b=true:=by rw[hn.out];simp
  clear hn;subst hb;go_enter Tryz.func119,Tryz.ntmps119;go_wp2_with fail;refine(H.out _ (hs.alloc _)).mono ?_;rintro r w' ⟨rfl,rfl⟩;go_wp2;go_ret;exact⟨rfl,iy.alloc _ _⟩
 .have hb:b=false:=by rw[hn.out];simp;omega
  have pH:((n:Int)==0)=false:= av ;have rD:decide ((n:Int)<=4096)=false:= av ;clear hn;subst hb;go_enter Tryz.func119,Tryz.ntmps119;go_wp2_with fail;refine(H.out _ (hs.alloc _)).mono ?_;rintro r w' ⟨rfl,rfl⟩;go_wp2;go_ret;exact⟨rfl,iy.alloc _ _⟩
 .have hb:b=false:=by rw[hn.out];simp;omega
  have pH:((n:Int)==0)=false:= av ;have rD:decide ((n:Int)<=4096)=true:= av ;have j9:decide (-16384<=e)=false:= av ;clear hn;subst hb;go_enter Tryz.func119,Tryz.ntmps119;go_wp2_with fail;refine(H.out _ (hs.alloc _)).mono ?_;rintro r w' ⟨rfl,rfl⟩;go_wp2;go_ret;exact⟨rfl,iy.alloc _ _⟩
 .have hb:b=false:=by rw[hn.out];simp;omega
  have pH:((n:Int)==0)=false:= av ;have rD:decide ((n:Int)<=4096)=true:= av ;have j9:decide (-16384<=e)=true:= av ;have CN:decide (e<=16384)=false:= av ;clear hn;subst hb;go_enter Tryz.func119,Tryz.ntmps119;go_wp2_with fail;refine(H.out _ (hs.alloc _)).mono ?_;rintro r w' ⟨rfl,rfl⟩;go_wp2;go_ret;exact⟨rfl,iy.alloc _ _⟩
 .have hb:b=false:=by rw[hn.out];simp;omega
  have pH:((n:Int)==0)=false:= av ;have rD:decide ((n:Int)<=4096)=true:= av ;have j9:decide (-16384<=e)=true:= av ;have CN:decide (e<=16384)=true:= av ;have hn4:decide ((n:Int)+e<=16384)=false:= av ;clear hn;subst hb;go_enter Tryz.func119,Tryz.ntmps119;go_wp2_with fail;refine(H.out _ (hs.alloc _)).mono ?_;rintro r w' ⟨rfl,rfl⟩;go_wp2;go_ret;exact⟨rfl,iy.alloc _ _⟩
 .have hb:b=true:=by rw[hn.out];simp;omega
  have pH:((n:Int)==0)=false:= av ;have rD:decide ((n:Int)<=4096)=true:= av ;have j9:decide (-16384<=e)=true:= av ;have CN:decide (e<=16384)=true:= av ;have hn4:decide ((n:Int)+e<=16384)=true:= av ;clear hn;subst hb;go_enter Tryz.func119,Tryz.ntmps119;go_wp2_with fail;refine(H.out _ (hs.alloc _)).mono ?_;rintro r w' ⟨rfl,rfl⟩;go_wp2;go_ret;exact⟨rfl,iy.alloc _ _⟩
def oH(s:Bool)(L:List Nat)(e:Int):Prop:=mW L/\L.length<=256/\Dy.ib ⟨s,val L,e⟩
theorem QZ(s:Bool)(e:Int):oH s [] e↔s=false/\e=0:=by
 unfold oH;constructor
 .rintro ⟨_,_,hc,_⟩
  rcases hc with⟨_,h1,h2⟩|h
  .exact ⟨h1,h2⟩
  .simp at h
 .rintro ⟨rfl,rfl⟩
  exact⟨mW.nil,aj,rm⟩
theorem QY{s:Bool}{L:List Nat}{e:Int}{x y:Nat}(hx:L[0]? = some x)(hy:L[L.length-1]? = some y):
 oH s L e↔L.length<=256/\x%2=1/\y≠0/\tY (val L) e=true:=by
 have Ta:val L%2=x%2:=by
  cases L with
  |nil=>simp at hx
  |cons z l=>simp at hx;subst hx;simp only[qp];omega
 have Bo:mW L↔y≠0:=by
  rw[AJ];obtain⟨h1,h2⟩:=bV.1 hy;constructor
  .intro h;rw[<-h2];exact h ae 
  .intro h _;rw[h2];exact h
 unfold oH tY;rw[Bo,gn];constructor
 .rintro ⟨h1,h2,hc,hr⟩
  have rF:mP ⟨false,val L,e⟩:=hr;refine⟨h2,?_,h1,rF⟩;rcases hc with⟨h,_,_⟩|h
  .exfalso
   have:=(Bo.2 h1).y3 (by intro h0;subst h0;simp at hx);simp only at h;omega
  .rw [<-Ta];exact h
 .rintro ⟨h1,h2,h3,h4⟩
  exact⟨h3,h1,.inr (by show val L%2=1;rw[Ta];exact h2),h4⟩
theorem qt{b:Bool}{P:Prop}(h:b=true↔P)(hn:¬P):b=false:=by
 cases b
 .rfl
 .exact absurd (h.1 rfl) hn
theorem Kk{b:Bool}{P:Prop}(h:b=true↔P)(hn:P):b=true:=h.2 hn
theorem PO{b v:Bool}{P:Prop}(h:b=true↔P)(hn:P↔v=true):b=v:=by
 cases b<;>cases v<;>simp_all
theorem A5(s:Bool)(A:Option Addr)(c:Nat)(L:List Nat)(e:Int)(w:World)(b:Bool)(hs:Sl w A c L)(kQ:-9223372036854775808<=e)(kx:e<=9223372036854775807)(hb:b=true↔oH s L e):
 Calls Tryz.prog 68 #[.agg #[.bool s,.slice A L.length c,.int .i64 e]] w fun r w'=>r = .returned (.bool b)/\iy w w':=by
 have CG:=hs.cap;have zL:=hs.pV;by_cases hL:L=[]
 .subst hL
  rw[QZ]at hb;cases s
  .by_cases h:e=0
   .subst h
    have:b=true:=by simpa using hb
    clear hb;subst this;go_enter Tryz.func68,Tryz.ntmps68;go_wp2;go_ret;exact⟨rfl,iy.alloc _ _⟩
   .have:b=false:=qt hb (by simp[h])
    have h':(e==0)=false:= av ;clear hb;subst this;go_enter Tryz.func68,Tryz.ntmps68;go_wp2;go_ret;exact⟨rfl,iy.alloc _ _⟩
  .have:b=false:=qt hb aj 
   clear hb;subst this;go_enter Tryz.func68,Tryz.ntmps68;go_wp2;go_ret;exact⟨rfl,iy.alloc _ _⟩
 .have sE:0<L.length:=dX.2 hL
  clear hL;obtain⟨ab,ao,rfl,_,c1⟩:=hs.ln sE;obtain⟨ab',ao',e',_,c2⟩:=hs.ln (i:=L.length-1) ae;cases e';have my:=hs.ok.get sE;have pq:=hs.ok.get (show L.length-1<L.length by omega);rw[QY (bd sE) (bd (show L.length-1<L.length by omega))]at hb;have c1':w.cell? ⟨ab,ao,none⟩=some (.int .u32 (L[0]:Int)):=c1;clear c1;generalize L[0]=x at *
  generalize L[L.length-1]=y at *
  have HB:=Lib.hid hb;clear hb;have H:=Lib.hid (fun w (h:Sl w (some ⟨ab,ao,none⟩) c L) (hl:L.length<=256)=>Mz s _ c L e w h ae kQ kx);obtain⟨n,hn⟩:∃ n,n=L.length:=⟨_,rfl⟩
  rw[<-hn]at sE c2 H HB CG ⊢;clear hn;generalize tY (val L) e=v at *
  have pH:((n:Int)==0)=false:= av ;by_cases h1:n<=256
  .have rD:decide ((n:Int)<=256)=true:= av 
   by_cases h2:x%2=1
   .have j9:((x:Int)%2==1)=true:= av 
    by_cases h3:y=0
    .have:b=false:=qt HB.out (by simp[h3])
     have CN:((y:Int) != 0)=false:= av ;clear HB;subst this;go_enter Tryz.func68,Tryz.ntmps68;go_wp2;go_ret;exact⟨rfl,iy.alloc _ _⟩
    .have:b=v:=PO HB.out (by simp[h1,h2,h3])
     have CN:((y:Int) != 0)=true:= av ;clear HB;subst this;go_enter Tryz.func68,Tryz.ntmps68;go_wp2_with fail;refine(H.out _ (hs.alloc _) h1).mono ?_;rintro r w' ⟨rfl,mo⟩;go_wp2;go_ret;exact⟨rfl,(iy.alloc _ _).trans mo⟩
   .have:b=false:=qt HB.out (fun h=>h2 h.2.1)
    have j9:((x:Int)%2==1)=false:= av ;clear HB;subst this;go_enter Tryz.func68,Tryz.ntmps68;go_wp2;go_ret;exact⟨rfl,iy.alloc _ _⟩
  .have:b=false:=qt HB.out (fun h=>h1 h.1)
   have rD:decide ((n:Int)<=256)=false:= av ;clear HB;subst this;go_enter Tryz.func68,Tryz.ntmps68;go_wp2;go_ret;exact⟨rfl,iy.alloc _ _⟩
open Go.RowKit Fp
theorem MU{n k:Nat}(h:ia n<=32*k):(gU n).length<=k:=qX (by rw[nD];exact kN.1 h)
theorem abE(d:Dy):oH d.neg (gU d.m) d.e↔d.ib:=by
 unfold oH;rw[jC];constructor
 .exact fun h=>h.2.2
 .intro h
  refine⟨tn _,?_,h⟩;rcases h.range with h0|⟨h1,_⟩
  .rw [h0,nh];simp
  .exact MU ae 
theorem oH.D9{s:Bool}{L:List Nat}{e:Int}(h:oH s L e)(hk:iC L):L=gU (val L):=h.1.D9 hk
theorem oH.len{s:Bool}{L:List Nat}{e:Int}(h:oH s L e):L.length<=256:=h.2.1
theorem oH.bits{s:Bool}{L:List Nat}{e:Int}(h:oH s L e):ia (val L)<=4096:=by
 rcases h.2.2.range with h0|⟨h1,_⟩
 .simp only at h0;rw[h0];decide
 .exact h1
theorem oH.exp{s:Bool}{L:List Nat}{e:Int}(h:oH s L e):-16384<=e/\e<=16384:=by
 rcases h.2.2.range with h0|⟨_,h1,h2,_⟩
 .rcases h.2.2.canon with⟨_,_,h3⟩|h3
  .simp only at h3;omega
  .simp only at h0 h3;omega
 .exact ⟨h1,h2⟩
theorem KS(s:Bool)(A:Option Addr)(c:Nat)(L:List Nat)(e:Int)(w:World)(hs:Sl w A c L)(hd:oH s L e):
 Calls Tryz.prog 130 #[.agg #[.bool s,.slice A L.length c,.int .i64 e]] w fun r w'=>r = .returned (.int .i64 (Dy.iu ⟨s,val L,e⟩))/\iy w w':=by
 obtain⟨kQ,kx⟩:=hd.exp;have hl:=hd.len;have H9:=hd.bits;have HV:=Lib.hid (fun w (h:Sl w A c L)=>A5 s A c L e w true h ae ae (by simp[hd]));have HS:=Lib.hid (fun w (h:Sl w A c L)=>KR A c L w h ae);by_cases h0:L=[]
 .subst h0
  go_enter Tryz.func130,Tryz.ntmps130;go_wp2_with fail;refine(HV.out _ (hs.alloc _)).mono ?_;rintro r w' ⟨rfl,hb⟩;have bx:=(jg.new w s A 0 c e).ext hb;have b0:=bx.c0;have b1:=bx.c1;have b2:=bx.c2;go_wp2;go_ret;exact⟨rfl,(iy.alloc _ _).trans hb⟩
 .have sE:0<L.length:=dX.2 h0
  have rI:val L≠0:=by have:=hd.1.y3 h0;omega
  have ht:=Lib.hid (show Dy.iu ⟨s,val L,e⟩=ia (val L)+e by unfold Dy.iu;rw[aQ rI]);clear h0 rI;generalize Dy.iu ⟨s,val L,e⟩=t at *
  generalize ia (val L)=q at *
  have hw:IntKind.i64.wrap ((q:Int)+e)=q+e:=i64_in _ ae ae;have pH:((L.length:Int)==0)=false:=aJ ae;go_enter Tryz.func130,Tryz.ntmps130;go_wp2_with fail;refine(HV.out _ (hs.alloc _)).mono ?_;rintro r w' ⟨rfl,hb⟩;have bx:=(jg.new w s A L.length c e).ext hb;have b0:=bx.c0;have b1:=bx.c1;have b2:=bx.c2;have mJ:=(hs.alloc _).below hb;go_wp2_with fail;go_region_held3 (fun w'=>w'.cell? ⟨w.heap.size,1,none⟩=some (.slice A L.length c)/\w'.cell? ⟨w.heap.size,2,none⟩=some (.int .i64 e)) (go_keep)
   (first|(go_at_call 161;refine(HS.out _ ?_).mono ?_;(exact mJ.drew);rintro r w'' ⟨rfl,rfl⟩))
  go_wp2;go_ret;exact⟨oj (by rw[ht.out]),Below.drew ((iy.alloc _ _).trans hb)⟩
theorem abG(s:Bool)(A:Option Addr)(c:Nat)(L:List Nat)(e:Int)(w:World)(hs:Sl w A c L)(hd:oH s L e):
 Calls Tryz.prog 295 #[.agg #[.bool s,.slice A L.length c,.int .i64 e]] w fun r w'=>r = .returned (.int .i64 (ia (val L)))/\iy w w':=by
 obtain⟨kQ,kx⟩:=hd.exp;have hl:=hd.len;have HV:=Lib.hid (fun w (h:Sl w A c L)=>A5 s A c L e w true h ae ae (by simp[hd]));have HS:=Lib.hid (fun w (h:Sl w A c L)=>KR A c L w h ae);go_enter Tryz.func295,Tryz.ntmps295;go_wp2_with fail;refine(HV.out _ (hs.alloc _)).mono ?_;rintro r w' ⟨rfl,hb⟩;have bx:=(jg.new w s A L.length c e).ext hb;have b0:=bx.c0;have b1:=bx.c1;have b2:=bx.c2;go_wp2_with fail;refine(HS.out _ ((hs.alloc _).below hb)).mono ?_;rintro r w' ⟨rfl,rfl⟩;go_wp2;go_ret;exact⟨rfl,(iy.alloc _ _).trans hb⟩
theorem KQ(s:Bool)(A:Option Addr)(c:Nat)(L:List Nat)(e:Int)(w:World)(hs:Sl w A c L)(hd:oH s L e):
 Calls Tryz.prog 35 #[.agg #[.bool s,.slice A L.length c,.int .i64 e]] w fun r w'=>r = .returned (.int .i64 (Dy.iK ⟨s,val L,e⟩))/\iy w w':=by
 obtain⟨kQ,kx⟩:=hd.exp;have hl:=hd.len;have HV:=Lib.hid (fun w (h:Sl w A c L)=>A5 s A c L e w true h ae ae (by simp[hd]));by_cases h0:L=[]
 .subst h0
  go_enter Tryz.func35,Tryz.ntmps35;go_wp2_with fail;refine(HV.out _ (hs.alloc _)).mono ?_;rintro r w' ⟨rfl,hb⟩;have bx:=(jg.new w s A 0 c e).ext hb;have b0:=bx.c0;have b1:=bx.c1;have b2:=bx.c2;go_wp2;go_ret;exact⟨rfl,(iy.alloc _ _).trans hb⟩
 .have sE:0<L.length:=dX.2 h0
  have rI:val L≠0:=by have:=hd.1.y3 h0;omega
  have ht:=Lib.hid (show Dy.iK ⟨s,val L,e⟩=if s then -1 else 1 by unfold Dy.iK;rw[aQ rI]);clear h0 rI;generalize Dy.iK ⟨s,val L,e⟩=t at *
  have pH:((L.length:Int)==0)=false:=aJ ae;go_enter Tryz.func35,Tryz.ntmps35;go_wp2_with fail;refine(HV.out _ (hs.alloc _)).mono ?_;rintro r w' ⟨rfl,hb⟩;have bx:=(jg.new w s A L.length c e).ext hb;have b0:=bx.c0;have b1:=bx.c1;have b2:=bx.c2;cases s
  .go_wp2
   go_ret;exact⟨oj (by rw[ht.out];rfl),(iy.alloc _ _).trans hb⟩
  .go_wp2
   go_ret;exact⟨oj (by rw[ht.out];rfl),(iy.alloc _ _).trans hb⟩
open Go.RowKit Fp
theorem acJ(e:Int)(w:World)(b:Bool)(hb:b=true↔(-32768<=e/\e<=32768)):
 Calls Tryz.prog 77 #[.int .i64 e] w fun r w'=>r = .returned (.bool b)/\w=w':=by
 by_cases h1:-32768<=e
 .have d1:decide (-32768<=e)=true:=by simpa using h1
  by_cases h2:e<=32768
  .have d2:decide (e<=32768)=true:=by simpa using h2
   have:=Kk hb ⟨h1,h2⟩;clear hb;subst this;go_enter Tryz.func77,Tryz.ntmps77;go_wp2;go_ret;exact⟨rfl,rfl⟩
  .have d2:decide (e<=32768)=false:=by simpa using h2
   have:=qt hb (fun h=>h2 h.2);clear hb;subst this;go_enter Tryz.func77,Tryz.ntmps77;go_wp2;go_ret;exact⟨rfl,rfl⟩
 .have d1:decide (-32768<=e)=false:=by simpa using h1
  have:=qt hb (fun h=>h1 h.1);clear hb;subst this;go_enter Tryz.func77,Tryz.ntmps77;go_wp2;go_ret;exact⟨rfl,rfl⟩
theorem Qp(d:Dy)(A:Option Addr)(c:Nat)(w:World)(hs:Sl w A c (gU d.m))(hl:(gU d.m).length<=100000000)(kQ:-10000000<=d.e)(kx:d.e<=10000000)(hd:mP d):
 Calls Tryz.prog 78 #[.agg #[.bool d.neg,.slice A (gU d.m).length c,.int .i64 d.e]] w (sN w d 0):=by
 obtain⟨s,m,e⟩:=d;simp only at *
 have hr:tY m e=true:=by unfold tY;exact aS hd
 have HV:=Lib.hid (fun w (h:Sl w A c (gU m))=>Mz s A c (gU m) e w h hl ae ae);rw[jC,hr]at HV;clear hr hd;go_enter Tryz.func78,Tryz.ntmps78;go_wp2_with fail;refine(HV.out _ ((hs.alloc _).alloc _)).mono ?_;rintro r w' ⟨rfl,hb⟩;have bx:=((jg.new w s A (gU m).length c e).alloc (.cells #[.bool false,.slice none 0 0,.int .i64 0] 31)).ext hb;have by_:=(jg.new (w.alloc (.cells #[.bool s,.slice A (gU m).length c,.int .i64 e] 31)) false none 0 0 0).ext hb;have b0:=bx.c0;have b1:=bx.c1;have b2:=bx.c2;have bz:(w.alloc (.cells #[.bool s,.slice A (gU m).length c,.int .i64 e] 31)).heap.size=w.heap.size+1:= aj ;rw[bz]at by_;have c0:=by_.c0;have c1:=by_.c1;have c2:=by_.c2;have f0:=by_.fr 0;have f1:=by_.fr 1;have f2:=by_.fr 2;have mJ:=((hs.alloc (.cells #[.bool s,.slice A (gU m).length c,.int .i64 e] 31)).alloc (.cells #[.bool false,.slice none 0 0,.int .i64 0] 31)).below hb;have mo:iy w w':=((iy.alloc _ _).trans (iy.alloc _ _)).trans hb;clear bz;go_wp2;exact uI rfl rfl rfl rfl (by_.set _ _ _ _ _) rfl (by_.qm mJ _ _ _ _ _) (jg.qc mo ae _ _ _ _ _)
theorem aa3(d:Dy)(A:Option Addr)(c:Nat)(w:World)(hs:Sl w A c (gU d.m))(hl:(gU d.m).length<=100000000)(kQ:-10000000<=d.e)(kx:d.e<=10000000)(hd:¬mP d):
 Calls Tryz.prog 78 #[.agg #[.bool d.neg,.slice A (gU d.m).length c,.int .i64 d.e]] w (sN w jx 9):=by
 obtain⟨s,m,e⟩:=d;simp only at *
 have hr:tY m e=false:=by unfold tY;exact aT hd
 have HV:=Lib.hid (fun w (h:Sl w A c (gU m))=>Mz s A c (gU m) e w h hl ae ae);rw[jC,hr]at HV;clear hr hd;go_enter Tryz.func78,Tryz.ntmps78;go_wp2_with fail;refine(HV.out _ ((hs.alloc _).alloc _)).mono ?_;rintro r w' ⟨rfl,hb⟩;have by_:=(jg.new (w.alloc (.cells #[.bool s,.slice A (gU m).length c,.int .i64 e] 31)) false none 0 0 0).ext hb;have bz:(w.alloc (.cells #[.bool s,.slice A (gU m).length c,.int .i64 e] 31)).heap.size=w.heap.size+1:= aj ;rw[bz]at by_;have c0:=by_.c0;have c1:=by_.c1;have c2:=by_.c2;have f0:=by_.fr 0;have f1:=by_.fr 1;have f2:=by_.fr 2;have mo:iy w w':=((iy.alloc _ _).trans (iy.alloc _ _)).trans hb;have hz:gU jx.m=[]:=nh;have HZ:=Lib.hid hz;clear bz hz;go_wp2;exact uI rfl rfl rfl rfl (by_.set _ _ _ _ _) (by rw[HZ.out];rfl) (by rw[HZ.out];exact by_.qm (Sl.nil _) _ _ _ _ _) (jg.qc mo ae _ _ _ _ _)
theorem agA(s:Bool)(A:Option Addr)(c:Nat)(L:List Nat)(e:Int)(w:World)(hs:Sl w A c L)(hlen:L.length<=256)(kQ:-32768<=e)(kx:e<=32768)(kp:Tb w)(hd:mP (canon s (val L) e)):
 Calls Tryz.prog 262 #[.bool s,.slice A L.length c,.int .i64 e] w (sN w (canon s (val L) e) 0):=by
 have w9:decide (256<(L.length:Int))=false:=aT ae;have HE:=Lib.hid (fun w=>acJ e w true (by simp[kQ,kx]));have HC:=Lib.hid (fun w (h:Sl w A c L) (ht:Tb w)=>G8 s A c L e w h ae (by have:=oG L;unfold lQ at this;omega) ae ae ht);have iZ:(gU (canon s (val L) e).m).length<=100000000:=by
  unfold canon;split
  .simp [nh]
  .refine aX (qX (k:=256) (bQ (bw _ _) ?_)) ag 
   exact bD (lY hs.ok) (bh ag hlen)
 have mc:-10000000<=(canon s (val L) e).e/\(canon s (val L) e).e<=10000000:=by
  unfold canon;split
  .simp
  .rename_i h0
   have:=DX hs.ok h0;simp only;omega
 obtain⟨mc,pn⟩:=mc;have HK:=Lib.hid (fun A c w (h:Sl w A c (gU (canon s (val L) e).m))=>Qp _ A c w h iZ mc pn hd);generalize canon s (val L) e=d at *
 clear hd iZ mc pn;go_enter Tryz.func262,Tryz.ntmps262;go_wp2_with fail;refine(HE.out _).mono ?_;rintro r w' ⟨rfl,rfl⟩;go_wp2_with fail;refine(HC.out _ (hs.alloc _) (kp.alloc _)).mono ?_;rintro r w1 ⟨A1,c1,rfl,sF,iZ⟩;go_wp2_with fail;refine(HK.out _ _ _ sF).mono ?_;rintro r w2 ⟨A2,c2,rfl,ky,mc⟩;have hb:=iZ.trans mc;have bx:=(jg.new w false none 0 0 0).ext hb;have b0:=bx.c0;have b1:=bx.c1;have b2:=bx.c2;have f0:=bx.fr 0;have f1:=bx.fr 1;have f2:=bx.fr 2;go_wp2;exact uI rfl rfl rfl rfl (bx.set _ _ _ _ _) rfl (bx.qm ky _ _ _ _ _) (jg.qc ((iy.alloc _ _).trans hb) (aU _) _ _ _ _ _)
open Go.RowKit Fp
theorem alw(x:Nat)(hx:x<4294967296):bits BinOp.and IntKind.u32 (x:Int) 1=((x%2:Nat):Int):=by
 rw[show(1:Int)=((1:Nat):Int)from rfl,bits_and_u32_nat _ _ hx ag,gj]
theorem aff{m:Nat}(h0:m≠0)(e:Int):tY m e=true↔(ia m<=4096 /\ -16384<=e/\e<=16384/\(ia m:Int)+e<=16384):=by
 have h:tY m e=true↔mP ⟨false,m,e⟩:=gn;rw[h];constructor
 .rintro (h|h)
  .exact absurd h h0
  .exact h
 .exact fun h=>.inr h
theorem Jq(s:Bool)(A:Option Addr)(c:Nat)(L:List Nat)(e:Int)(w:World)(b:Bool)(hs:Sl w A c L)(kQ:-9223372036854775808<=e)(kx:e<=9223372036854775807)(hb:b=true↔oH s L e):
 Calls Tryz.prog 46 #[.agg #[.bool s,.slice A L.length c,.int .i64 e]] w fun r w'=>r = .returned (.bool b)/\iy w w':=by
 have CG:=hs.cap;have zL:=hs.pV;by_cases hL:L=[]
 .subst hL
  rw[QZ]at hb;cases s
  .by_cases h:e=0
   .subst h
    have:b=true:=by simpa using hb
    clear hb;subst this;go_enter Tryz.func46,Tryz.ntmps46;go_wp2;go_ret;exact⟨rfl,iy.alloc _ _⟩
   .have:b=false:=qt hb (by simp[h])
    have h':(e==0)=false:= av ;clear hb;subst this;go_enter Tryz.func46,Tryz.ntmps46;go_wp2;go_ret;exact⟨rfl,iy.alloc _ _⟩
  .have:b=false:=qt hb aj 
   clear hb;subst this;go_enter Tryz.func46,Tryz.ntmps46;go_wp2;go_ret;exact⟨rfl,iy.alloc _ _⟩
 .have sE:0<L.length:=dX.2 hL
  obtain⟨ab,ao,rfl,_,c1⟩:=hs.ln sE;obtain⟨ab',ao',e',_,c2⟩:=hs.ln (i:=L.length-1) ae;cases e';have my:=hs.ok.get sE;have pq:=hs.ok.get (show L.length-1<L.length by omega);rw[QY (bd sE) (bd (show L.length-1<L.length by omega))]at hb;have c1':w.cell? ⟨ab,ao,none⟩=some (.int .u32 (L[0]:Int)):=c1;have Hz:=Lib.hid (show L[L.length-1]≠0->mW L from fun h=>(AJ L).2 (fun _=>h));have vP:=Lib.hid (show L[L.length-1]≠0->val L≠0 from fun h=>by have:=((AJ L).2 (fun _=>h)).y3 hL;omega);clear c1 hL;generalize L[0]=x at *
  generalize L[L.length-1]=y at *
  have HB:=Lib.hid hb;clear hb;have H:=Lib.hid (fun w (h:Sl w (some ⟨ab,ao,none⟩) c L) (hl:L.length<=256) (ht:mW L)=>WB _ c L w h ht ae);have hr:Hid (val L≠0->(tY (val L) e=true↔(ia (val L)<=4096 /\ -16384<=e/\e<=16384/\(ia (val L):Int)+e<=16384))):=fun h0=>by
   exact aff h0 e
  obtain⟨n,hn⟩:∃ n,n=L.length:=⟨_,rfl⟩
  rw[<-hn]at sE c2 H HB CG ⊢;have HN:=Lib.hid hn;clear hn;have pH:((n:Int)==0)=false:= av ;by_cases h1:n<=256
  .have rD:decide (256<(n:Int))=false:=aT ae 
   by_cases h3:y=0
   .have:b=false:=qt HB.out (by simp[h3])
    have CN:((y:Int)==0)=true:= av ;clear HB hr;subst this;go_enter Tryz.func46,Tryz.ntmps46;go_wp2;go_ret;exact⟨rfl,iy.alloc _ _⟩
   .have CN:((y:Int)==0)=false:=aJ ae 
    have hand:=alw x my;by_cases h2:x%2=1
    .have j9:(bits BinOp.and IntKind.u32 (x:Int) 1==0)=false:=by rw[hand,h2];rfl
     clear hand;have h0:=vP.out h3;have Bo:=Hz.out h3;have xW:ia (val L)<=32*n:=kN.2 (by rw[<-nD,HN.out];exact lY hs.ok);have HB2:Hid (b=true↔(ia (val L)<=4096 /\ -16384<=e/\e<=16384/\(ia (val L):Int)+e<=16384)):=by
      show b=true↔_;rw[HB.out,hr.out h0];simp[h1,h2,h3]
     have H2:=Lib.hid (fun w h=>H.out w h h1 Bo);clear HB hr h0 Bo Hz vP H;generalize ia (val L)=q at *
     by_cases h4:-16384<=e
     .have d4:decide (e < -16384)=false:=aT ae 
      by_cases h5:e<=16384
      .have d5:decide (16384<e)=false:=aT ae 
       by_cases h6:q<=4096
       .have d6:decide ((q:Int)<=4096)=true:=aS ae 
        by_cases h7:(q:Int)+e<=16384
        .have d7:decide ((q:Int)+e<=16384)=true:=aS h7
         have:=Kk HB2.out ⟨h6,h4,h5,h7⟩;clear HB2;subst this;go_enter Tryz.func46,Tryz.ntmps46;go_wp2_with fail;refine(H2.out _ (hs.alloc _)).mono ?_;rintro r w' ⟨rfl,rfl⟩;go_wp2;go_ret;exact⟨rfl,iy.alloc _ _⟩
        .have d7:decide ((q:Int)+e<=16384)=false:=aT h7
         have:=qt HB2.out (fun h=>h7 h.2.2.2);clear HB2;subst this;go_enter Tryz.func46,Tryz.ntmps46;go_wp2_with fail;refine(H2.out _ (hs.alloc _)).mono ?_;rintro r w' ⟨rfl,rfl⟩;go_wp2;go_ret;exact⟨rfl,iy.alloc _ _⟩
       .have d6:decide ((q:Int)<=4096)=false:=aT ae 
        have:=qt HB2.out (fun h=>h6 h.1);clear HB2;subst this;go_enter Tryz.func46,Tryz.ntmps46;go_wp2_with fail;refine(H2.out _ (hs.alloc _)).mono ?_;rintro r w' ⟨rfl,rfl⟩;go_wp2;go_ret;exact⟨rfl,iy.alloc _ _⟩
      .have d5:decide (16384<e)=true:=aS ae 
       have:=qt HB2.out (fun h=>h5 h.2.2.1);clear HB2;subst this;go_enter Tryz.func46,Tryz.ntmps46;go_wp2;go_ret;exact⟨rfl,iy.alloc _ _⟩
     .have d4:decide (e < -16384)=true:=aS ae 
      have:=qt HB2.out (fun h=>h4 h.2.1);clear HB2;subst this;go_enter Tryz.func46,Tryz.ntmps46;go_wp2;go_ret;exact⟨rfl,iy.alloc _ _⟩
    .have j9:(bits BinOp.and IntKind.u32 (x:Int) 1==0)=true:=by rw[hand,show x%2=0 by omega];rfl
     have:b=false:=qt HB.out (fun h=>h2 h.2.1);clear HB hand hr;subst this;go_enter Tryz.func46,Tryz.ntmps46;go_wp2;go_ret;exact⟨rfl,iy.alloc _ _⟩
  .have:b=false:=qt HB.out (fun h=>h1 h.1)
   have rD:decide (256<(n:Int))=true:=aS ae;clear HB hr;subst this;go_enter Tryz.func46,Tryz.ntmps46;go_wp2;go_ret;exact⟨rfl,iy.alloc _ _⟩
open Go.RowKit Fp
theorem ai6(e:Int)(w:World)(b:Bool)(hb:b=true↔(-32768<=e/\e<=32768)):
 Calls Tryz.prog 74 #[.int .i64 e] w fun r w'=>r = .returned (.bool b)/\w=w':=by
 by_cases h1:-32768<=e
 .have d1:decide (-32768<=e)=true:=by simpa using h1
  by_cases h2:e<=32768
  .have d2:decide (e<=32768)=true:=by simpa using h2
   have:=Kk hb ⟨h1,h2⟩;clear hb;subst this;go_enter Tryz.func74,Tryz.ntmps74;go_wp2;go_ret;exact⟨rfl,rfl⟩
  .have d2:decide (e<=32768)=false:=by simpa using h2
   have:=qt hb (fun h=>h2 h.2);clear hb;subst this;go_enter Tryz.func74,Tryz.ntmps74;go_wp2;go_ret;exact⟨rfl,rfl⟩
 .have d1:decide (-32768<=e)=false:=by simpa using h1
  have:=qt hb (fun h=>h1 h.1);clear hb;subst this;go_enter Tryz.func74,Tryz.ntmps74;go_wp2;go_ret;exact⟨rfl,rfl⟩
theorem ai3(d:Dy)(A:Option Addr)(c:Nat)(w:World)(hs:Sl w A c (gU d.m))(hl:(gU d.m).length<=100000000)(kQ:-10000000<=d.e)(kx:d.e<=10000000)(hd:d.ib):
 Calls Tryz.prog 75 #[.agg #[.bool d.neg,.slice A (gU d.m).length c,.int .i64 d.e]] w (sN w d 0):=by
 obtain⟨s,m,e⟩:=d;simp only at *
 have HV:=Lib.hid (fun w (h:Sl w A c (gU m))=>Jq s A c (gU m) e w true h ae ae (iff_of_true rfl ((abE ⟨s,m,e⟩).2 hd)));clear hd;go_enter Tryz.func75,Tryz.ntmps75;go_wp2_with fail;refine(HV.out _ ((hs.alloc _).alloc _)).mono ?_;rintro r w' ⟨rfl,hb⟩;have bx:=((jg.new w s A (gU m).length c e).alloc (.cells #[.bool false,.slice none 0 0,.int .i64 0] 31)).ext hb;have by_:=(jg.new (w.alloc (.cells #[.bool s,.slice A (gU m).length c,.int .i64 e] 31)) false none 0 0 0).ext hb;have b0:=bx.c0;have b1:=bx.c1;have b2:=bx.c2;have bz:(w.alloc (.cells #[.bool s,.slice A (gU m).length c,.int .i64 e] 31)).heap.size=w.heap.size+1:= aj ;rw[bz]at by_;have c0:=by_.c0;have c1:=by_.c1;have c2:=by_.c2;have f0:=by_.fr 0;have f1:=by_.fr 1;have f2:=by_.fr 2;have mJ:=((hs.alloc (.cells #[.bool s,.slice A (gU m).length c,.int .i64 e] 31)).alloc (.cells #[.bool false,.slice none 0 0,.int .i64 0] 31)).below hb;have mo:iy w w':=((iy.alloc _ _).trans (iy.alloc _ _)).trans hb;clear bz;go_wp2;exact uI rfl rfl rfl rfl (by_.set _ _ _ _ _) rfl (by_.qm mJ _ _ _ _ _) (jg.qc mo ae _ _ _ _ _)
theorem ajk(s:Bool)(A:Option Addr)(c:Nat)(L:List Nat)(e:Int)(w:World)(hs:Sl w A c L)(ht:mW L):
 Calls Tryz.prog 47 #[.agg #[.bool s,.slice A L.length c,.int .i64 e]] w fun r w'=>r = .returned (.int .i64 (Dy.iK ⟨s,val L,e⟩))/\iy w w':=by
 have hl:=hs.len;by_cases h0:L=[]
 .subst h0
  go_enter Tryz.func47,Tryz.ntmps47;go_wp2;go_ret;exact⟨rfl,iy.alloc _ _⟩
 .have sE:0<L.length:=dX.2 h0
  have rI:val L≠0:=by have:=ht.y3 h0;omega
  have ht:=Lib.hid (show Dy.iK ⟨s,val L,e⟩=if s then -1 else 1 by unfold Dy.iK;rw[aQ rI]);clear h0 rI;generalize Dy.iK ⟨s,val L,e⟩=t at *
  have pH:((L.length:Int)==0)=false:=aJ ae;cases s
  .go_enter Tryz.func47,Tryz.ntmps47
   go_wp2;go_ret;exact⟨oj (by rw[ht.out];rfl),iy.alloc _ _⟩
  .go_enter Tryz.func47,Tryz.ntmps47
   go_wp2;go_ret;exact⟨oj (by rw[ht.out];rfl),iy.alloc _ _⟩
theorem ajn(s:Bool)(A:Option Addr)(c:Nat)(L:List Nat)(e:Int)(w:World)(hs:Sl w A c L)(ht:mW L)(hl:L.length<=100000)(kQ:-1000000<=e)(kx:e<=1000000):
 Calls Tryz.prog 97 #[.agg #[.bool s,.slice A L.length c,.int .i64 e]] w fun r w'=>r = .returned (.int .i64 (Dy.iu ⟨s,val L,e⟩))/\iy w w':=by
 have HS:=Lib.hid (fun w (h:Sl w A c L)=>WB A c L w h ht ae);have xW:ia (val L)<=32*L.length:=kN.2 (by rw[<-nD];exact lY hs.ok);by_cases h0:L=[]
 .subst h0
  go_enter Tryz.func97,Tryz.ntmps97;go_wp2;go_ret;exact⟨rfl,iy.alloc _ _⟩
 .have sE:0<L.length:=dX.2 h0
  have rI:val L≠0:=by have:=ht.y3 h0;omega
  have ht:=Lib.hid (show Dy.iu ⟨s,val L,e⟩=ia (val L)+e by unfold Dy.iu;rw[aQ rI]);clear h0 rI;generalize Dy.iu ⟨s,val L,e⟩=t at *
  generalize ia (val L)=q at *
  have hw:IntKind.i64.wrap ((q:Int)+e)=q+e:=i64_in _ ae ae;have pH:((L.length:Int)==0)=false:=aJ ae;have mJ:=hs.alloc (.cells #[.bool s,.slice A L.length c,.int .i64 e] 31);go_enter Tryz.func97,Tryz.ntmps97;go_wp2_with fail;go_region_held3 (fun w'=>w'.cell? ⟨w.heap.size,1,none⟩=some (.slice A L.length c)/\w'.cell? ⟨w.heap.size,2,none⟩=some (.int .i64 e)) (go_keep)
   (first|(go_at_call 94;refine(HS.out _ ?_).mono ?_;(exact mJ.drew);rintro r w'' ⟨rfl,rfl⟩))
  go_wp2;go_ret;exact⟨oj (by rw[ht.out]),Below.drew (iy.alloc _ _)⟩
theorem ajc(s:Bool)(A:Option Addr)(c:Nat)(L:List Nat)(e:Int)(w:World)(hs:Sl w A c L)(ht:mW L):
 Calls Tryz.prog 99 #[.agg #[.bool s,.slice A L.length c,.int .i64 e]] w (tv w (iF ⟨s,val L,e⟩)):=by
 have hl:=hs.len;have HL:=Lib.hid (ht.D9 hs.ok);by_cases h0:L=[]
 .subst h0
  have HZ:=Lib.hid nh;cases s
  .go_enter Tryz.func99,Tryz.ntmps99
   go_wp2;exact sx (d:=iF ⟨false,val [],e⟩) rfl rfl rfl (jg.pt aj _ _ _ _ _) (by show _=(gU 0).length;rw[HZ.out];rfl) (by show Sl _ _ _ (gU 0);rw[HZ.out];exact(hs.alloc _).alloc _) ((iy.alloc _ _).trans (iy.alloc _ _))
  .go_enter Tryz.func99,Tryz.ntmps99
   go_wp2;exact sx (d:=iF ⟨true,val [],e⟩) rfl rfl rfl (jg.pt aj _ _ _ _ _) (by show _=(gU 0).length;rw[HZ.out];rfl) (by show Sl _ _ _ (gU 0);rw[HZ.out];exact(hs.alloc _).alloc _) ((iy.alloc _ _).trans (iy.alloc _ _))
 .have sE:0<L.length:=dX.2 h0
  have rI:val L≠0:=by have:=ht.y3 h0;omega
  have hd:=Lib.hid (show iF ⟨s,val L,e⟩=⟨!s,val L,e⟩by unfold iF;simp[rI]);clear h0 rI ht;rw[hd.out];cases s
  .go_enter Tryz.func99,Tryz.ntmps99
   go_wp2;exact sx (d:=⟨!false,val L,e⟩) rfl rfl rfl (jg.pt aj _ _ _ _ _) (by show _=(gU (val L)).length;rw[<-HL.out]) (by show Sl _ _ _ (gU (val L));rw[<-HL.out];exact(hs.alloc _).alloc _) ((iy.alloc _ _).trans (iy.alloc _ _))
  .go_enter Tryz.func99,Tryz.ntmps99
   go_wp2;exact sx (d:=⟨!true,val L,e⟩) rfl rfl rfl (jg.pt aj _ _ _ _ _) (by show _=(gU (val L)).length;rw[<-HL.out]) (by show Sl _ _ _ (gU (val L));rw[<-HL.out];exact(hs.alloc _).alloc _) ((iy.alloc _ _).trans (iy.alloc _ _))
open Go.RowKit Fp
theorem aa8{a b:Nat}:jY a b=0↔a=b:=by
 unfold jY;by_cases h:a<b
 .rw [aR h];omega
 .by_cases h':b<a
  .rw [aQ h,aR h'];omega
  .rw [aQ h,aQ h'];omega
theorem ai4(s:Bool)(A:Option Addr)(c:Nat)(L:List Nat)(e:Int)(t:Bool)(B:Option Addr)(d:Nat)(M:List Nat)(f:Int)(w:World)(b:Bool)
 (hs:Sl w A c L) (hr:Sl w B d M) (tL:mW L) (tM:mW M) (h1:L.length<=100000) (_h2:M.length<=100000) (hb:b=true↔(s=t/\e=f/\L=M)):
 Calls Tryz.prog 101 #[.agg #[.bool s,.slice A L.length c,.int .i64 e],.agg #[.bool t,.slice B M.length d,.int .i64 f]] w fun r w'=>r = .returned (.bool b)/\iy w w':=by
 have hE:iy w ((w.alloc (.cells #[.bool s,.slice A L.length c,.int .i64 e] 31)).alloc (.cells #[.bool t,.slice B M.length d,.int .i64 f] 31)):=(iy.alloc _ _).trans (iy.alloc _ _);by_cases h:s=t
 .subst h
  by_cases h':e=f
  .subst h'
   have mo:b=true↔L=M:=by rw[hb];simp
   clear hb;by_cases hl:L.length=M.length
   .have HC:=Lib.hid (fun w (h:Sl w A c L) (k:Sl w B d M)=>WC A B c d L M w h k tL tM ae ae)
    have hv:Hid (b=(jY (val L) (val M)==0)):=by
     show b=_;refine PO mo ?_;rw[gp,aa8];exact⟨fun h=>by rw[h],fun h=>mW.ext tL tM hs.ok hr.ok h⟩
    generalize jY (val L) (val M)=v at *
    rw[<-hl]at HC hE ⊢;have hse:(e==e)=true:= aj ;have ky:=(hs.alloc (.cells #[.bool s,.slice A L.length c,.int .i64 e] 31)).alloc (.cells #[.bool s,.slice B L.length d,.int .i64 e] 31);have nu:=(hr.alloc (.cells #[.bool s,.slice A L.length c,.int .i64 e] 31)).alloc (.cells #[.bool s,.slice B L.length d,.int .i64 e] 31);clear mo hl tL tM;cases s
    .go_enter Tryz.func101,Tryz.ntmps101
     go_wp2_with fail;refine(HC.out _ ky nu).mono ?_;rintro r w' ⟨rfl,iZ⟩;go_wp2;go_ret;exact⟨Jt hv.out.symm,hE.trans iZ⟩
    .go_enter Tryz.func101,Tryz.ntmps101
     go_wp2_with fail;refine(HC.out _ ky nu).mono ?_;rintro r w' ⟨rfl,iZ⟩;go_wp2;go_ret;exact⟨Jt hv.out.symm,hE.trans iZ⟩
   .have:=qt mo (fun h=>hl (by rw[h]))
    clear mo;subst this;have ks:((L.length:Int)==(M.length:Int))=false:=aJ ae;generalize L.length=n at *
    generalize M.length=m at *
    cases s
    .go_enter Tryz.func101,Tryz.ntmps101
     go_wp2;go_ret;exact⟨rfl,hE⟩
    .go_enter Tryz.func101,Tryz.ntmps101
     go_wp2;go_ret;exact⟨rfl,hE⟩
  .have:=qt hb (fun h=>h' h.2.1)
   clear hb;subst this;have ks:(e==f)=false:=aJ h';cases s
   .go_enter Tryz.func101,Tryz.ntmps101
    go_wp2;go_ret;exact⟨rfl,hE⟩
   .go_enter Tryz.func101,Tryz.ntmps101
    go_wp2;go_ret;exact⟨rfl,hE⟩
 .have:=qt hb (fun h'=>h h'.1)
  clear hb;subst this;cases s<;>cases t
  .exact absurd rfl h
  .go_enter Tryz.func101,Tryz.ntmps101
   go_wp2;go_ret;exact⟨rfl,hE⟩
  .go_enter Tryz.func101,Tryz.ntmps101
   go_wp2;go_ret;exact⟨rfl,hE⟩
  .exact absurd rfl h
open Go.RowKit Fp
theorem Sl.JN(w:World)(g:Nat)(hg:w.heap.size=g)(y z:Int)(p q:Nat)(e:y=(p:Int))(e':z=(q:Int))(hp:p<4294967296)(hq:q<4294967296):
 Sl (w.alloc (.cells #[.int .u32 y,.int .u32 z] 79)) (some ⟨g,0,none⟩) 2 [p,q]:=by
 subst e e' hg;refine⟨aU _,ag,iC.cons hp (iC.cons hq iC.nil),(fun h=>by cases h),fun i y hy=>?_⟩;obtain⟨h1,h2⟩:=bV.1 hy;simp at h1;refine⟨_,_,rfl,aj,?_⟩;rw[bX,World.cell?_alloc_at _ _ _ _ rfl];rcases i with _|_|i
 .simp at h2;subst h2;rfl
 .simp at h2;subst h2;rfl
 .omega
theorem ai9(n:Nat)(w:World)(hn:n<4294967296):
 Calls Tryz.prog 81 #[.int .i64 n] w (tv w (canon false n 0)):=by
 have hm:=vC n ae;have uW:(n:Int)%4294967296=n:= ae ;rw[uW]at hm;have hd:(n:Int)/4294967296=0:= ae ;have iD:¬(n:Int)<0:= ae ;have LR:decide ((n:Int)<0)=false:=aT iD;have hu:IntKind.u64.wrap (n:Int)=n:=by rw[IntKind.wrap_u64];omega
 have HC:=Lib.hid (fun(A:Option Addr) c w (h:Sl w A c [n,0])=>FN false A c [n,0] 0 w h aj ag ag);have hv:val [n,0]=n:= aj ;rw[hv]at HC;clear hv;generalize canon false n 0=d at *
 go_enter Tryz.func81,Tryz.ntmps81;go_wp2_with fail;refine(HC.out _ _ _ (Sl.JN _ _ aj _ _ n 0 rfl rfl hn ag)).mono ?_;rintro r w1 ⟨A1,c1,rfl,sF,iZ⟩;have jI:iy (w.alloc (.cells #[.bool false,.slice none 0 0,.int .i64 0] 31)) w1:=(iy.alloc _ _).trans iZ;have bx:=(jg.new w false none 0 0 0).ext jI;have b0:=bx.c0;have b1:=bx.c1;have b2:=bx.c2;have f0:=bx.fr 0;have f1:=bx.fr 1;have f2:=bx.fr 2;go_wp2;exact sx rfl rfl rfl (bx.set _ _ _ _ _) rfl (bx.qm sF _ _ _ _ _) (jg.qc ((iy.alloc _ _).trans jI) (aU _) _ _ _ _ _)
open Go.RowKit Fp
theorem Dw{w:World}{g g' i:Nat}{v a b c:Value}(h:w.cell? ⟨g,i,none⟩=some v)(ks:g'≠g):
 (((w.setCell ⟨g',0,none⟩ a).setCell ⟨g',1,none⟩ b).setCell ⟨g',2,none⟩ c).cell? ⟨g,i,none⟩=some v:=by
 rw[World.cell?_setCell_other _ _ _ _ an,World.cell?_setCell_other _ _ _ _ an,World.cell?_setCell_other _ _ _ _ an];exact h
end Go.Proofs.YtdgnpeddgdclhaaGreatDoor
namespace Go.Proofs.YtdgnpeddgdclhaaGreatDoor.Fp
theorem Cg(s:Bool)(e:Int):canon s 0 e=jx:=by unfold canon;rw[aR rfl];rfl
theorem GO(s:Bool)(x:Nat)(k:Int):kT (if s then -(x:Int)else(x:Int)) k=canon s x k:=by
 unfold kT;cases s
 .have h:decide ((x:Int)<0)=false:=aT ae 
  simp only[bq,a6];rw[h,dA]
 .by_cases h:x=0
  .subst h;simp[Cg]
  .have h:decide (-(x:Int)<0)=true:=aS ae 
   simp only[bk];rw[h,ff,dA]
theorem XF{s:Bool}{m n:Nat}{e f k:Int}(hm:m≠0)(hn:n≠0)(hk:min e f=k):
 iI ⟨s,m,e⟩ ⟨s,n,f⟩=canon s (m*2^(e-k).toNat+n*2^(f-k).toNat) k:=by
 unfold iI;rw[aQ hm,aQ hn];simp only[hk];rw[<-GO];unfold Dy.num Dy.jQ;cases s
 .simp
 .simp;congr 1;omega
theorem XD{s t:Bool}{m n:Nat}{e f k:Int}(hm:m≠0)(hn:n≠0)(hk:min e f=k)(hs:s≠t)(pO:n*2^(f-k).toNat<=m*2^(e-k).toNat):
 iI ⟨s,m,e⟩ ⟨t,n,f⟩=canon s (m*2^(e-k).toNat-n*2^(f-k).toNat) k:=by
 unfold iI;rw[aQ hm,aQ hn];simp only[hk];rw[<-GO];unfold Dy.num Dy.jQ;simp only;generalize m*2^(e-k).toNat=x at *
 generalize n*2^(f-k).toNat=y at *
 congr 1;cases s<;>cases t<;>simp at hs ⊢ <;> omega
theorem XE{s t:Bool}{m n:Nat}{e f k:Int}(hm:m≠0)(hn:n≠0)(hk:min e f=k)(hs:s≠t)(iD:m*2^(e-k).toNat<n*2^(f-k).toNat):
 iI ⟨s,m,e⟩ ⟨t,n,f⟩=canon t (n*2^(f-k).toNat-m*2^(e-k).toNat) k:=by
 unfold iI;rw[aQ hm,aQ hn];simp only[hk];rw[<-GO];unfold Dy.num Dy.jQ;simp only;generalize m*2^(e-k).toNat=x at *
 generalize n*2^(f-k).toNat=y at *
 congr 1;cases s<;>cases t<;>simp at hs ⊢ <;> omega
theorem agf{L:List Nat}(h:iC L)(n:Nat):(gU (val L*2^n)).length<=L.length+n/32+1:=by
 refine qX ?_;have h1:=lY h;rw[nD]at h1 ⊢;have h2:val L*2^n<2^(32*L.length)*2^n:=cC h1 (aY ag);rw[<-aV]at h2;exact bD h2 (bh ag ae)
theorem Ug{a b k:Nat}(ha:(gU a).length<=k)(hb:(gU b).length<=k):(gU (a+b)).length<=k+1:=by
 refine qX ?_;have h1:=ub ha;have h2:=ub hb;rw[aZ];omega
theorem lW{a b:Nat}(h:a<=b):(gU a).length<=(gU b).length:=
 qX (bQ h (ub (aU _)))
end Go.Proofs.YtdgnpeddgdclhaaGreatDoor.Fp
namespace Go.Proofs.YtdgnpeddgdclhaaGreatDoor
open Go.RowKit Fp
def ml(a b:Dy):Dy:=canon (a.neg != b.neg) (a.m*b.m) (a.e+b.e)
theorem age{a b k l:Nat}(ha:(gU a).length<=k)(hb:(gU b).length<=l):(gU (a*b)).length<=k+l:=by
 have h1:=ub ha;have h2:=ub hb;refine qX ?_;rw[aV];exact gl h1 h2
theorem MV{L:List Nat}{k:Nat}(h:iC L)(hl:L.length<=k):(gU (val L)).length<=k:=
 qX (bD (lY h) (bh ag hl))
theorem aje(s : Bool)(A : Option Addr)(c : Nat)(L : List Nat)(e : Int)(t : Bool)(B : Option Addr)(d : Nat)(M : List Nat)(f : Int)(w : World)
    (hs : Sl w A c L) (hr : Sl w B d M) (h1 : L.length<=1000) (h2 : M.length<=1000) (e1 : -200000<=e) (e2 : e<=200000) (f1 : -200000<=f) (f2 : f<=200000):
    Calls Tryz.prog 154 #[.agg #[.bool s,.slice A L.length c,.int .i64 e],.agg #[.bool t,.slice B M.length d,.int .i64 f]] w (tv w (ml ⟨s,val L,e⟩ ⟨t,val M,f⟩)) := by
  have hE : iy w (((w.alloc (.cells #[.bool s,.slice A L.length c,.int .i64 e] 31)).alloc (.cells #[.bool t,.slice B M.length d,.int .i64 f] 31)).alloc (.cells #[.bool false,.slice none 0 0,.int .i64 0] 31)) := ((iy.alloc _ _).trans (iy.alloc _ _)).trans (iy.alloc _ _);have hw : IntKind.i64.wrap (e+f)=e+f := i64_in _ ae ae;have kO := (((jg.new w s A L.length c e).alloc (.cells #[.bool t,.slice B M.length d,.int .i64 f] 31)).alloc (.cells #[.bool false,.slice none 0 0,.int .i64 0] 31)).drew;have kR := ((jg.pt (W := w.alloc (.cells #[.bool s,.slice A L.length c,.int .i64 e] 31)) (g := w.heap.size+1) aj t B M.length d f).alloc (.cells #[.bool false,.slice none 0 0,.int .i64 0] 31)).drew;have bx3 := (jg.pt (W := (w.alloc (.cells #[.bool s,.slice A L.length c,.int .i64 e] 31)).alloc (.cells #[.bool t,.slice B M.length d,.int .i64 f] 31)) (g := w.heap.size+1+1) aj false none 0 0 0).drew;have tU := (hs.below hE).drew;have yo := (hr.below hE).drew;have HE := Lib.hid (hE.trans (iy.drew _));clear hE;have hlen := age (a := val L) (b := val M) (k := 1000) (l := 1000) (MV hs.ok h1) (MV hr.ok h2);have HO := Lib.hid (fun A c w (h : Sl w A c (gU (val L*val M))) => FN (s != t) A c (gU (val L*val M)) (e+f) w h ae ae ae);rw[jC]at HO;have hD : ml ⟨s,val L,e⟩ ⟨t,val M,f⟩=canon (s != t) (val L*val M) (e+f) := rfl;rw[hD];have HT := Lib.hid (fun w (h : Sl w A c L) (k : Sl w B d M) => ajm A B c d L M w h k ae ae);clear hD hlen;generalize canon (s != t) (val L*val M) (e+f)=D at *
  generalize val L*val M=x at *
  go_enter Tryz.func154,Tryz.ntmps154;go_wp2_with fail;go_region_held3 (fun w' => w'.cell? ⟨w.heap.size,0,none⟩=some (.bool s)/\w'.cell? ⟨w.heap.size,1,none⟩=some (.slice A L.length c)/\w'.cell? ⟨w.heap.size,2,none⟩=some (.int .i64 e)/\w'.cell? ⟨w.heap.size+1,0,none⟩=some (.bool t)/\w'.cell? ⟨w.heap.size+1,1,none⟩=some (.slice B M.length d)/\w'.cell? ⟨w.heap.size+1,2,none⟩=some (.int .i64 f))
    (first
      |exact⟨kO.c0,kO.c1,kO.c2,kR.c0,kR.c1,kR.c2⟩
      |exact⟨(kO.ext po).c0,(kO.ext po).c1,(kO.ext po).c2,(kR.ext po).c0,(kR.ext po).c1,(kR.ext po).c2⟩
      |exact⟨(kO.ext (po.trans ke)).c0,(kO.ext (po.trans ke)).c1,(kO.ext (po.trans ke)).c2,(kR.ext (po.trans ke)).c0,(kR.ext (po.trans ke)).c1,(kR.ext (po.trans ke)).c2⟩
      |exact⟨Dw (kO.ext (po.trans ke)).c0 ae,Dw (kO.ext (po.trans ke)).c1 ae,Dw (kO.ext (po.trans ke)).c2 ae,Dw (kR.ext (po.trans ke)).c0 ae,Dw (kR.ext (po.trans ke)).c1 ae,Dw (kR.ext (po.trans ke)).c2 ae⟩)
    (first
      | (go_at_call 189
         refine(HT.out _ tU yo).mono ?_;rintro r wp ⟨Ap,cp,rfl,Ml,po⟩)
      | (go_at_call 76
         refine(HO.out _ _ _ Ml).mono ?_;rintro r wo ⟨Ao,co,rfl,hso,ke⟩;have bz := bx3.ext (po.trans ke);have z0 := bz.c0;have z1 := bz.c1;have z2 := bz.c2;have y0 := bz.fr 0;have y1 := bz.fr 1;have y2 := bz.fr 2))
  go_wp2;exact sx rfl rfl rfl (bz.set _ _ _ _ _) rfl (bz.qm hso _ _ _ _ _) (jg.qc (HE.out.trans (po.trans ke)) ae _ _ _ _ _)
end Go.Proofs.YtdgnpeddgdclhaaGreatDoor
namespace Go.Proofs.YtdgnpeddgdclhaaGreatDoor.Fp
theorem agz{d:Dy}{j k:Int}(h1:j<=k)(h2:k<=d.e):d.jQ j=d.jQ k*2^(k-j).toNat:=by
 unfold Dy.jQ;rw[bc,<-aV];congr 2;omega
theorem I6{d:Dy}{j k:Int}(h1:j<=k)(h2:k<=d.e):d.num j=d.num k*((2^(k-j).toNat:Nat):Int):=by
 unfold Dy.num;rw[agz h1 h2];split
 .rw [dH,Int.neg_mul]
 .rw [dH]
theorem vd{d:Dy}(h:d.m=0)(k:Int):d.num k=0:=by
 unfold Dy.num;rw[UD h];split<;>rfl
def vF(x y:Int):Int:=if x<y then -1 else if y<x then 1 else 0
theorem Qv(x y:Int){p:Nat}(hp:0<p):vF (x*(p:Int)) (y*(p:Int))=vF x y:=by
 unfold vF;have h:(0:Int)<(p:Int):= ae ;have a:=@Int.mul_lt_mul_right (p:Int) x y h;have b:=@Int.mul_lt_mul_right (p:Int) y x h;simp only[a,b]
def nG(d:Dy)(k:Int):Prop:=d.m=0\/k<=d.e
theorem nG.num{d:Dy}{j k:Int}(h:nG d k)(hj:j<=k):d.num j=d.num k*((2^(k-j).toNat:Nat):Int):=by
 rcases h with h|h
 .rw [vd h,vd h,Int.zero_mul]
 .exact I6 hj h
theorem Ci{a b:Dy}{k:Int}(ha:nG a k)(hb:nG b k):jm a b=vF (a.num k) (b.num k):=by
 have e0:jm a b=vF (a.num (min a.e b.e)) (b.num (min a.e b.e)):=rfl;rw[e0];obtain⟨j,h1,h2⟩:∃ j:Int,j<=k/\j<=min a.e b.e:=⟨min k (min a.e b.e),ae,ae⟩
 have a1:=ha.num h1;have b1:=hb.num h1;have a2:=(show nG a (min a.e b.e)from .inr ae).num h2;have b2:=(show nG b (min a.e b.e)from .inr ae).num h2;rw[<-Qv _ _ (p:=2^(min a.e b.e-j).toNat) (aY ag),<-a2,<-b2,a1,b1,Qv _ _ (aY ag)]
theorem agx{s:Bool}{m:Nat}{e k:Int}(h:k<=e):(canon s m e).jQ k=m*2^(e-k).toNat:=by
 unfold canon;split
 .rename_i h0;subst h0;simp[Dy.jQ]
 .rename_i h0
  unfold Dy.jQ;simp only;have e1:=D4 h0
  conv=>rhs;rw[<-e1]
  rw[bc,<-aV];congr 2;omega
theorem BH{s:Bool}{m:Nat}{e k:Int}(h:k<=e):(canon s m e).num k=if s then -((m*2^(e-k).toNat:Nat):Int)else((m*2^(e-k).toNat:Nat):Int):=by
 by_cases h0:m=0
 .subst h0
  rw[vd (by simp[canon])];simp
 .have:(canon s m e).neg=s:=by unfold canon;rw[aQ h0]
  unfold Dy.num;rw[agx h,this]
theorem Vg{m:Nat}{e k:Int}(h:k<=e):(canon false m e).num k=((m*2^(e-k).toNat:Nat):Int):=by
 rw[BH h];simp
theorem Ng{z e k:Int}(h:k<=e):(kT z e).num k=z*((2^(e-k).toNat:Nat):Int):=by
 unfold kT;rw[BH h];by_cases hz:z<0
 .simp only[hz,fI,bk]
  rw[dH,<-Int.neg_mul];congr 1;omega
 .simp only[hz,decide_false]
  rw[dH,show(z.natAbs:Int)=z by omega];simp
theorem zf{s:Bool}{m:Nat}{e k:Int}(h:k<=e):nG (canon s m e) k:=by
 unfold canon;split
 .exact .inl rfl
 .exact .inr (by simp only;omega)
theorem J8{z e k:Int}(h:k<=e):nG (kT z e) k:=zf h
theorem JG{a b:Dy}{k:Int}(ha:nG a k)(hb:nG b k):(iI a b).num k=a.num k+b.num k:=by
 unfold iI;by_cases h1:a.m=0
 .rw [aR h1,vd h1,Int.zero_add]
 .rw [aQ h1]
  by_cases h2:b.m=0
  .rw [aR h2,vd h2,Int.add_zero]
  .rw [aQ h2]
   have ea:k<=a.e:=by rcases ha with h|h;exact absurd h h1;exact h
   have eb:k<=b.e:=by rcases hb with h|h;exact absurd h h2;exact h
   have hm:k<=min a.e b.e:= ae ;rw[Ng hm,Int.add_mul,<-I6 hm ae,<-I6 hm ae]
theorem Gt{a b:Dy}{k:Int}(ha:nG a k)(hb:nG b k):nG (iI a b) k:=by
 unfold iI;by_cases h1:a.m=0
 .rw [aR h1];exact hb
 .rw [aQ h1]
  by_cases h2:b.m=0
  .rw [aR h2];exact ha
  .rw [aQ h2]
   have ea:k<=a.e:=by rcases ha with h|h;exact absurd h h1;exact h
   have eb:k<=b.e:=by rcases hb with h|h;exact absurd h h2;exact h
   exact J8 ae 
theorem AU{a b:Dy}(ha:a.lG)(hb:b.lG):(iI a b).lG:=by
 unfold iI;split
 .exact hb
 .split
  .exact ha
  .exact qJ _ _ _
theorem DN{d:Dy}{k:Int}(h:nG d k):nG (iF d) k:=h
theorem Fo{d:Dy}(k:Int):(iF d).num k = -(d.num k):=by
 by_cases h:d.m=0
 .rw [vd h,vd (by exact h)];rfl
 .exact Vh d k h
theorem KU{a b:Dy}(ha:a.lG)(hb:b.lG){k:Int}(h1:nG a k)(h2:nG b k)(h:a.num k=b.num k):a=b:=by
 have zero:∀ {d:Dy},d.lG->d.m=0->d=jx:=by
  intro d hd h0;obtain⟨s,m,e⟩:=d;rcases hd with⟨x,y,z⟩|hd
  .simp only at x y z;subst x y z;rfl
  .simp only at hd h0;omega
 have nz:∀ {d:Dy},d.num k=0->d.m=0:=by
  intro d hd;by_cases h0:d.m=0
  .exact h0
  .exfalso
   have:=u6 h0 k;unfold Dy.num at hd;split at hd<;>omega
 by_cases za:a.m=0
 .have zb:b.m=0:=nz (by rw[<-h];exact vd za k)
  rw[zero ha za,zero hb zb]
 .have zb:b.m≠0:=fun zb=>za (nz (by rw[h];exact vd zb k))
  have oa:a.m%2=1:=by rcases ha with⟨x,_,_⟩|x;exact absurd x za;exact x
  have ob:b.m%2=1:=by rcases hb with⟨x,_,_⟩|x;exact absurd x zb;exact x
  have ea:k<=a.e:=by rcases h1 with h|h;exact absurd h za;exact h
  have eb:k<=b.e:=by rcases h2 with h|h;exact absurd h zb;exact h
  have pa:=u6 za k;have pb:=u6 zb k;have hm:a.neg=b.neg/\a.jQ k=b.jQ k:=by
   unfold Dy.num at h;cases x:a.neg<;>cases y:b.neg<;>simp[x,y]at h<;>first|exact⟨rfl,ae⟩|(exfalso;omega)
  have hc:=congrArg jO hm.2;unfold Dy.jQ at hc;rw[xP oa,xP ob]at hc;have uW:=hm.2;unfold Dy.jQ at uW;rw[hc]at uW;have rX:=am8 (aY ag) uW;obtain⟨s,m,e⟩:=a;obtain⟨t,n,f⟩:=b;simp only at *
  have:e=f:= ae ;rw[hm.1,rX,this]
end Go.Proofs.YtdgnpeddgdclhaaGreatDoor.Fp
namespace Go.Proofs.YtdgnpeddgdclhaaGreatDoor
open Go.RowKit Fp
theorem JB(A:Option Addr)(c:Nat)(M:List Nat)(n:Int)(w:World)(ky:Sl w A c M)(hlen:M.length<=256)(h0:0<=n)(hn:n<=65536)(od:(gU (val M*2^n.toNat)).length<=256):
 Calls Tryz.prog 132 #[.slice A M.length c,.int .i64 n] w (sO w (gU (val M*2^n.toNat))):=by
 obtain⟨k,rfl⟩:=dY h0;exact akf A c M k w ky hlen ae od
set_option maxHeartbeats 8000000 in
theorem abL(s : Bool)(A : Option Addr)(c : Nat)(L : List Nat)(e : Int)(t : Bool)(B : Option Addr)(d : Nat)(M : List Nat)(f : Int)(w : World)
    (hs : Sl w A c L) (hr : Sl w B d M) (da : oH s L e) (db : oH t M f) (uP : val L≠0) (sC : val M≠0):
    Calls Tryz.prog 80 #[.agg #[.bool s,.slice A L.length c,.int .i64 e],.agg #[.bool t,.slice B M.length d,.int .i64 f]] w fun r w' => r = .returned (.int .i64 (su ⟨s,val L,e⟩ ⟨t,val M,f⟩))/\iy w w' := by
  obtain⟨kQ,kx⟩ := da.exp;obtain⟨LW,LX⟩ := db.exp;have hl := da.len;have hm := db.len;have hE : iy w ((w.alloc (.cells #[.bool s,.slice A L.length c,.int .i64 e] 31)).alloc (.cells #[.bool t,.slice B M.length d,.int .i64 f] 31)) := (iy.alloc _ _).trans (iy.alloc _ _);have kO := ((jg.new w s A L.length c e).alloc (.cells #[.bool t,.slice B M.length d,.int .i64 f] 31)).drew;have kR := (jg.pt (W := w.alloc (.cells #[.bool s,.slice A L.length c,.int .i64 e] 31)) (g := w.heap.size+1) aj t B M.length d f).drew;have tU := (hs.below hE).drew;have yo := (hr.below hE).drew;have HE := Lib.hid (hE.trans (iy.drew _));clear hE;have HTa := Lib.hid (fun w (h : Sl w A c L) => KS s A c L e w h da);have HTb := Lib.hid (fun w (h : Sl w B d M) => KS t B d M f w h db);have Hlt := Lib.hid (fun h => Qx (a := ⟨s,val L,e⟩) (b := ⟨t,val M,f⟩) uP sC h);have Hgt := Lib.hid (fun h => Qw (a := ⟨s,val L,e⟩) (b := ⟨t,val M,f⟩) uP sC h);have Hta := Lib.hid (show Dy.iu ⟨s,val L,e⟩=ia (val L)+e by unfold Dy.iu;rw[aQ uP]);have Htb := Lib.hid (show Dy.iu ⟨t,val M,f⟩=ia (val M)+f by unfold Dy.iu;rw[aQ sC]);obtain⟨k,hk⟩ : ∃ k,min e f=k := ⟨_,rfl⟩
  have hke : k<=e := ae ;have hkf : k<=f := ae ;have oe : -17000<=k := ae ;have L9 := Lib.hid (show k=e\/k=f by omega);have Mp : IntKind.i64.wrap (e-k)=e-k := i64_in _ ae ae;have hwf : IntKind.i64.wrap (f-k)=f-k := i64_in _ ae ae;have HM := Lib.hid (show su ⟨s,val L,e⟩ ⟨t,val M,f⟩=jY (val L*2^(e-k).toNat) (val M*2^(f-k).toNat)by unfold su;simp only[hk];rfl);have Hfa := Lib.hid (show ia (val L)+e=ia (val M)+f->ia (val L*2^(e-k).toNat)<=4096 from fun h => by
    rw[qf uP];have := da.bits;have := db.bits;have := L9.out;omega)
  have Hfb := Lib.hid (show ia (val L)+e=ia (val M)+f->ia (val M*2^(f-k).toNat)<=4096 from fun h => by
    rw[qf sC];have := da.bits;have := db.bits;have := L9.out;omega)
  have HXa := Lib.hid (fun w (h : Sl w A c L) od => JB A c L (e-k) w h hl ae ae od);have HXb := Lib.hid (fun w (h : Sl w B d M) od => JB B d M (f-k) w h hm ae ae od);generalize Dy.iu ⟨s,val L,e⟩=ta at *
  generalize Dy.iu ⟨t,val M,f⟩=tb at *
  generalize su ⟨s,val L,e⟩ ⟨t,val M,f⟩=R at *
  generalize val L*2^(e-k).toNat=x at *
  generalize val M*2^(f-k).toNat=y at *
  have HC := Lib.hid (fun A B c d w (h : Sl w A c (gU x)) (k : Sl w B d (gU y)) hx hy => Ff A B c d (gU x) (gU y) w h k hx hy);rw[jC,jC]at HC;clear uP sC da db hl hm;go_enter Tryz.func80,Tryz.ntmps80;go_wp2_with fail;go_region_held3 (fun w' => w'.cell? ⟨w.heap.size,0,none⟩=some (.bool s)/\w'.cell? ⟨w.heap.size,1,none⟩=some (.slice A L.length c)/\w'.cell? ⟨w.heap.size,2,none⟩=some (.int .i64 e)/\w'.cell? ⟨w.heap.size+1,0,none⟩=some (.bool t)/\w'.cell? ⟨w.heap.size+1,1,none⟩=some (.slice B M.length d)/\w'.cell? ⟨w.heap.size+1,2,none⟩=some (.int .i64 f))
    (first
      |exact⟨kO.c0,kO.c1,kO.c2,kR.c0,kR.c1,kR.c2⟩
      |exact⟨(kO.ext iT).c0,(kO.ext iT).c1,(kO.ext iT).c2,(kR.ext iT).c0,(kR.ext iT).c1,(kR.ext iT).c2⟩
      |exact⟨(kO.ext jH).c0,(kO.ext jH).c1,(kO.ext jH).c2,(kR.ext jH).c0,(kR.ext jH).c1,(kR.ext jH).c2⟩
      |exact⟨(kO.ext (iT.trans jH)).c0,(kO.ext (iT.trans jH)).c1,(kO.ext (iT.trans jH)).c2,(kR.ext (iT.trans jH)).c0,(kR.ext (iT.trans jH)).c1,(kR.ext (iT.trans jH)).c2⟩
      |exact⟨(kO.ext (jH.trans iT)).c0,(kO.ext (jH.trans iT)).c1,(kO.ext (jH.trans iT)).c2,(kR.ext (jH.trans iT)).c0,(kR.ext (jH.trans iT)).c1,(kR.ext (jH.trans iT)).c2⟩
      |exact⟨(kO.ext ((iT.trans jH).trans oP)).c0,(kO.ext ((iT.trans jH).trans oP)).c1,(kO.ext ((iT.trans jH).trans oP)).c2,(kR.ext ((iT.trans jH).trans oP)).c0,(kR.ext ((iT.trans jH).trans oP)).c1,(kR.ext ((iT.trans jH).trans oP)).c2⟩
      |exact⟨(kO.ext ((jH.trans iT).trans oP)).c0,(kO.ext ((jH.trans iT).trans oP)).c1,(kO.ext ((jH.trans iT).trans oP)).c2,(kR.ext ((jH.trans iT).trans oP)).c0,(kR.ext ((jH.trans iT).trans oP)).c1,(kR.ext ((jH.trans iT).trans oP)).c2⟩)
    (first
      | (go_at_call_of 130 (Value.agg #[.bool s,.slice A L.length c,.int .i64 e])
         refine(HTa.out _ ?_).mono ?_
         (first|exact tU|exact tU.below jH)
         rintro r wx ⟨rfl,iT⟩)
      | (go_at_call_of 130 (Value.agg #[.bool t,.slice B M.length d,.int .i64 f])
         refine(HTb.out _ ?_).mono ?_
         (first|exact yo|exact yo.below iT)
         rintro r wy ⟨rfl,jH⟩))
  first
    | (have qh := iT.trans jH)
    | (have qh := jH.trans iT)
  have cx1 := (kO.ext qh).drew;have cx2 := (kR.ext qh).drew;have ky := (tU.below qh).drew;have nu := (yo.below qh).drew;have cx1n := (kO.ext qh)
  have cx2n := (kR.ext qh)
  have HF := Lib.hid ((HE.out.trans qh).trans (iy.drew _));have HFr := Lib.hid (HE.out.trans qh);clear iT jH qh;by_cases h1 : ta<tb
  . have hR := Lib.hid (Hlt.out h1)
    go_wp2;go_ret;exact⟨oj hR.out.symm,HFr.out⟩
  . by_cases h2 : tb<ta
    . have hR := Lib.hid (Hgt.out h2)
      go_wp2;go_ret;exact⟨oj hR.out.symm,HFr.out⟩
    . have pJ : (ia (val L) : Int)+e=ia (val M)+f := by rw[<-Hta.out,<-Htb.out];omega
      have hfa := MU (k := 128) (Hfa.out pJ);have hfb := MU (k := 128) (Hfb.out pJ);have HXa2 := Lib.hid (fun w h => HXa.out w h ae);have HXb2 := Lib.hid (fun w h => HXb.out w h ae);have HC2 := Lib.hid (fun A B c d w h k => HC.out A B c d w h k ae ae);have b0 := cx1n.c0;have b1 := cx1n.c1;have b2 := cx1n.c2;have d0 := cx2n.c0;have d1 := cx2n.c1;have d2 := cx2n.c2;clear pJ hfa hfb;go_wp2_with fail;go_region_held3 (fun w' => w'.cell? ⟨w.heap.size,0,none⟩=some (.bool s)/\w'.cell? ⟨w.heap.size,1,none⟩=some (.slice A L.length c)/\w'.cell? ⟨w.heap.size,2,none⟩=some (.int .i64 e)/\w'.cell? ⟨w.heap.size+1,0,none⟩=some (.bool t)/\w'.cell? ⟨w.heap.size+1,1,none⟩=some (.slice B M.length d)/\w'.cell? ⟨w.heap.size+1,2,none⟩=some (.int .i64 f))
        (first
          |exact⟨cx1.c0,cx1.c1,cx1.c2,cx2.c0,cx2.c1,cx2.c2⟩
          |exact⟨(cx1.ext iT).c0,(cx1.ext iT).c1,(cx1.ext iT).c2,(cx2.ext iT).c0,(cx2.ext iT).c1,(cx2.ext iT).c2⟩
          |exact⟨(cx1.ext jH).c0,(cx1.ext jH).c1,(cx1.ext jH).c2,(cx2.ext jH).c0,(cx2.ext jH).c1,(cx2.ext jH).c2⟩
          |exact⟨(cx1.ext (iT.trans jH)).c0,(cx1.ext (iT.trans jH)).c1,(cx1.ext (iT.trans jH)).c2,(cx2.ext (iT.trans jH)).c0,(cx2.ext (iT.trans jH)).c1,(cx2.ext (iT.trans jH)).c2⟩
          |exact⟨(cx1.ext (jH.trans iT)).c0,(cx1.ext (jH.trans iT)).c1,(cx1.ext (jH.trans iT)).c2,(cx2.ext (jH.trans iT)).c0,(cx2.ext (jH.trans iT)).c1,(cx2.ext (jH.trans iT)).c2⟩
          |exact⟨(cx1.ext ((iT.trans jH).trans oP)).c0,(cx1.ext ((iT.trans jH).trans oP)).c1,(cx1.ext ((iT.trans jH).trans oP)).c2,(cx2.ext ((iT.trans jH).trans oP)).c0,(cx2.ext ((iT.trans jH).trans oP)).c1,(cx2.ext ((iT.trans jH).trans oP)).c2⟩
          |exact⟨(cx1.ext ((jH.trans iT).trans oP)).c0,(cx1.ext ((jH.trans iT).trans oP)).c1,(cx1.ext ((jH.trans iT).trans oP)).c2,(cx2.ext ((jH.trans iT).trans oP)).c0,(cx2.ext ((jH.trans iT).trans oP)).c1,(cx2.ext ((jH.trans iT).trans oP)).c2⟩)
        (first
          | (go_at_call_of 132 (Value.slice A L.length c)
             refine(HXa2.out _ ?_).mono ?_
             (first|exact ky|exact ky.below jH)
             rintro r wx ⟨Ax,cx,rfl,Th,iT⟩)
          | (go_at_call_of 132 (Value.slice B M.length d)
             refine(HXb2.out _ ?_).mono ?_
             (first|exact nu|exact nu.below iT)
             rintro r wy ⟨Ay,cy,rfl,Ti,jH⟩)
          | (go_at_call 131
             refine(HC2.out _ _ _ _ _ ?_ ?_).mono ?_
             (first|exact Th.below jH|exact Th)
             (first|exact Ti|exact Ti.below iT)
             rintro r wz ⟨rfl,oP⟩))
      all_goals
        go_wp2;go_ret
        (first|exact⟨oj HM.out.symm,HF.out.trans ((iT.trans jH).trans oP)⟩|exact⟨oj HM.out.symm,HF.out.trans ((jH.trans iT).trans oP)⟩)
open Go.RowKit Fp
theorem Xl{d:Dy}:d.iK=0↔d.m=0:=by
 rcases B0 d with⟨h1,h2⟩|⟨h1,_,h2⟩|⟨h1,_,h2⟩<;>simp[h1,h2]
theorem abJ(s : Bool)(A : Option Addr)(c : Nat)(L : List Nat)(e : Int)(t : Bool)(B : Option Addr)(d : Nat)(M : List Nat)(f : Int)(w : World)
    (hs : Sl w A c L) (hr : Sl w B d M) (da : oH s L e) (db : oH t M f):
    Calls Tryz.prog 37 #[.agg #[.bool s,.slice A L.length c,.int .i64 e],.agg #[.bool t,.slice B M.length d,.int .i64 f]] w fun r w' => r = .returned (.int .i64 (jm ⟨s,val L,e⟩ ⟨t,val M,f⟩))/\iy w w' := by
  obtain⟨kQ,kx⟩ := da.exp;obtain⟨LW,LX⟩ := db.exp;have HVa := Lib.hid (fun w (h : Sl w A c L) => A5 s A c L e w true h ae ae (by simp[da]));have HVb := Lib.hid (fun w (h : Sl w B d M) => A5 t B d M f w true h ae ae (by simp[db]));have HSa := Lib.hid (fun w (h : Sl w A c L) => KQ s A c L e w h da);have HSb := Lib.hid (fun w (h : Sl w B d M) => KQ t B d M f w h db);have HK := Lib.hid (fun h1 h2 w (h : Sl w A c L) (k : Sl w B d M) => abL s A c L e t B d M f w h k da db h1 h2);have HP := Lib.hid (Cj ⟨s,val L,e⟩ ⟨t,val M,f⟩);have z1 : Hid (Dy.iK ⟨s,val L,e⟩=0↔val L=0) := Xl;have z2 : Hid (Dy.iK ⟨t,val M,f⟩=0↔val M=0) := Xl;have Iz : Dy.iK ⟨s,val L,e⟩=0\/Dy.iK ⟨s,val L,e⟩ = -1\/Dy.iK ⟨s,val L,e⟩=1 := by
    rcases B0 ⟨s,val L,e⟩with⟨_,h⟩|⟨_,_,h⟩|⟨_,_,h⟩<;>simp[h]
  have nU : su ⟨s,val L,e⟩ ⟨t,val M,f⟩ = -1\/su ⟨s,val L,e⟩ ⟨t,val M,f⟩=0\/su ⟨s,val L,e⟩ ⟨t,val M,f⟩=1 := by
    unfold su jY;split;simp;split<;>simp
  generalize Dy.iK ⟨s,val L,e⟩=sa at *
  generalize Dy.iK ⟨t,val M,f⟩=sb at *
  generalize su ⟨s,val L,e⟩ ⟨t,val M,f⟩=cm at *
  generalize jm ⟨s,val L,e⟩ ⟨t,val M,f⟩=R at *
  have yx : IntKind.i64.wrap (sa*cm)=sa*cm := i64_in _ (by rcases Iz with rfl|rfl|rfl<;>omega) (by rcases Iz with rfl|rfl|rfl<;>omega);have HH := Lib.hid Iz;clear Iz nU da db;go_enter Tryz.func37,Tryz.ntmps37;go_wp2_with fail;refine(HVa.out _ ((hs.alloc _).alloc _)).mono ?_;rintro r w1 ⟨rfl,iZ⟩;have kO := ((jg.new w s A L.length c e).alloc (.cells #[.bool t,.slice B M.length d,.int .i64 f] 31)).ext iZ;have kR := (jg.pt (W := w.alloc (.cells #[.bool s,.slice A L.length c,.int .i64 e] 31)) (g := w.heap.size+1) aj t B M.length d f).ext iZ;have b0 := kO.c0;have b1 := kO.c1;have b2 := kO.c2;have d0 := kR.c0;have d1 := kR.c1;have d2 := kR.c2;have hE := (((iy.alloc w (.cells #[.bool s,.slice A L.length c,.int .i64 e] 31)).trans (iy.alloc _ (.cells #[.bool t,.slice B M.length d,.int .i64 f] 31))).trans iZ)
  go_wp2_with fail;refine(HVb.out _ (hr.below hE)).mono ?_;rintro r w2 ⟨rfl,mc⟩;have Ht := hE.trans mc;have kO := (kO.ext mc).drew;have kR := (kR.ext mc).drew;have tU := (hs.below Ht).drew;have yo := (hr.below Ht).drew;have HE := Lib.hid (Ht.trans (iy.drew _));clear hE Ht iZ mc b0 b1 b2 d0 d1 d2;go_wp2_with fail;go_region_held3 (fun w' => w'.cell? ⟨w.heap.size,0,none⟩=some (.bool s)/\w'.cell? ⟨w.heap.size,1,none⟩=some (.slice A L.length c)/\w'.cell? ⟨w.heap.size,2,none⟩=some (.int .i64 e)/\w'.cell? ⟨w.heap.size+1,0,none⟩=some (.bool t)/\w'.cell? ⟨w.heap.size+1,1,none⟩=some (.slice B M.length d)/\w'.cell? ⟨w.heap.size+1,2,none⟩=some (.int .i64 f))
    (first
      |exact⟨kO.c0,kO.c1,kO.c2,kR.c0,kR.c1,kR.c2⟩
      |exact⟨(kO.ext iT).c0,(kO.ext iT).c1,(kO.ext iT).c2,(kR.ext iT).c0,(kR.ext iT).c1,(kR.ext iT).c2⟩
      |exact⟨(kO.ext jH).c0,(kO.ext jH).c1,(kO.ext jH).c2,(kR.ext jH).c0,(kR.ext jH).c1,(kR.ext jH).c2⟩
      |exact⟨(kO.ext (iT.trans jH)).c0,(kO.ext (iT.trans jH)).c1,(kO.ext (iT.trans jH)).c2,(kR.ext (iT.trans jH)).c0,(kR.ext (iT.trans jH)).c1,(kR.ext (iT.trans jH)).c2⟩
      |exact⟨(kO.ext (jH.trans iT)).c0,(kO.ext (jH.trans iT)).c1,(kO.ext (jH.trans iT)).c2,(kR.ext (jH.trans iT)).c0,(kR.ext (jH.trans iT)).c1,(kR.ext (jH.trans iT)).c2⟩)
    (first
      | (go_at_call_of 35 (Value.agg #[.bool s,.slice A L.length c,.int .i64 e])
         refine(HSa.out _ ?_).mono ?_
         (first|exact tU|exact tU.below jH)
         rintro r wx ⟨rfl,iT⟩)
      | (go_at_call_of 35 (Value.agg #[.bool t,.slice B M.length d,.int .i64 f])
         refine(HSb.out _ ?_).mono ?_
         (first|exact yo|exact yo.below iT)
         rintro r wy ⟨rfl,jH⟩))
  first
    | (have qh := iT.trans jH)
    | (have qh := jH.trans iT)
  have cx1 := (kO.ext qh)
  have cx2 := (kR.ext qh)
  have ky := (tU.below qh)
  have nu := (yo.below qh)
  have HFr := Lib.hid (HE.out.trans qh);clear iT jH qh;by_cases h1 : sa<sb
  . have hR := Lib.hid (show R = -1 by rw[HP.out,aR h1])
    go_wp2;go_ret;exact⟨oj hR.out.symm,HFr.out⟩
  . by_cases h2 : sb<sa
    . have hR := Lib.hid (show R=1 by rw[HP.out,aQ h1,aR h2])
      go_wp2;go_ret;exact⟨oj hR.out.symm,HFr.out⟩
    . by_cases h3 : sa=0
      . have hR := Lib.hid (show R=0 by rw[HP.out,aQ h1,aQ h2,aR h3])
        have hz : (sa==0)=true := by simp[h3]
        go_wp2;go_ret;exact⟨oj hR.out.symm,HFr.out⟩
      . have hR := Lib.hid (show R=sa*cm by rw[HP.out,aQ h1,aQ h2,aQ h3])
        have hz : (sa==0)=false := aJ h3;have HK2 := Lib.hid (HK.out (fun h => h3 (z1.out.2 h)) (fun h => h3 (by have := z2.out.2 h;omega)));have b0 := cx1.c0;have b1 := cx1.c1;have b2 := cx1.c2;have d0 := cx2.c0;have d1 := cx2.c1;have d2 := cx2.c2;go_wp2_with fail;refine(HK2.out _ ky nu).mono ?_;rintro r w3 ⟨rfl,pn⟩;go_wp2;go_ret;exact⟨oj hR.out.symm,HFr.out.trans pn⟩
theorem Ul:gU 1=[1]:=by rw[yF ag];simp[nh]
open Go.RowKit Fp
theorem Qj{L:List Nat}(h:iC L)(hl:L.length<=256)(s:Bool)(e:Int):(gU (canon s (val L) e).m).length<=100000000:=by
 unfold canon;split
 .simp [nh]
 .refine aX (qX (k:=256) (bQ (bw _ _) ?_)) ag 
  exact bD (lY h) (bh ag hl)
theorem Qh{L:List Nat}(h:iC L)(hl:L.length<=256)(s:Bool)(e:Int)(h1:-9000000<=e)(h2:e<=9000000):-10000000<=(canon s (val L) e).e/\(canon s (val L) e).e<=10000000:=by
 unfold canon;split
 .simp
 .rename_i h0
  have:=DX h h0;simp only;omega
theorem ajj(s:Bool)(A:Option Addr)(c:Nat)(L:List Nat)(e k:Int)(w:World)(hs:Sl w A c L)(hd:oH s L e)(oe:-32768<=k)(sD:k<=32768)(hr:mP (canon s (val L) (e+k))):
 Calls Tryz.prog 31 #[.agg #[.bool s,.slice A L.length c,.int .i64 e],.int .i64 k] w (sN w (canon s (val L) (e+k)) 0):=by
 obtain⟨kQ,kx⟩:=hd.exp;have hlen:=hd.len;have HV:=Lib.hid (fun w (h:Sl w A c L)=>Jq s A c L e w true h ae ae (by simp[hd]));have HX:=Lib.hid (fun w=>ai6 k w true (by simp[oe,sD]));have hw:IntKind.i64.wrap (e+k)=e+k:=i64_in _ ae ae;have HC:=Lib.hid (fun w (h:Sl w A c L)=>FN s A c L (e+k) w h ae ae ae);have iZ:=Qj hs.ok hlen s (e+k);obtain⟨mc,pn⟩:=Qh hs.ok hlen s (e+k) ae ae;have hv:(canon s (val L) (e+k)).ib:=⟨qJ _ _ _,hr⟩
 have HK:=Lib.hid (fun A c w (h:Sl w A c (gU (canon s (val L) (e+k)).m))=>ai3 _ A c w h iZ mc pn hv);generalize canon s (val L) (e+k)=D at *
 clear hd hr hv iZ mc pn;go_enter Tryz.func31,Tryz.ntmps31;go_wp2_with fail;refine(HV.out _ ((hs.alloc _).alloc _)).mono ?_;rintro r w1 ⟨rfl,iZ⟩;have kO:=((jg.new w s A L.length c e).alloc (.cells #[.bool false,.slice none 0 0,.int .i64 0] 31)).ext iZ;have kR:=(jg.pt (W:=w.alloc (.cells #[.bool s,.slice A L.length c,.int .i64 e] 31)) (g:=w.heap.size+1) aj false none 0 0 0).ext iZ;have b0:=kO.c0;have b1:=kO.c1;have b2:=kO.c2;have hE:=(((iy.alloc w (.cells #[.bool s,.slice A L.length c,.int .i64 e] 31)).trans (iy.alloc _ (.cells #[.bool false,.slice none 0 0,.int .i64 0] 31))).trans iZ)
 have tU:=hs.below hE;have HE:=Lib.hid hE;clear hE iZ;go_wp2_with fail;refine(HX.out _).mono ?_;rintro r w2 ⟨rfl,rfl⟩;go_wp2_with fail;refine(HC.out _ tU).mono ?_;rintro r w2 ⟨A1,c1,rfl,sF,mc⟩;go_wp2_with fail;refine(HK.out _ _ _ sF).mono ?_;rintro r w3 ⟨A2,c2,rfl,ky,pn⟩;have bz:=kR.ext (mc.trans pn);have z0:=bz.c0;have z1:=bz.c1;have z2:=bz.c2;have f0:=bz.fr 0;have f1:=bz.fr 1;have f2:=bz.fr 2;go_wp2;exact uI rfl rfl rfl rfl (bz.set _ _ _ _ _) rfl (bz.qm ky _ _ _ _ _) (jg.qc (HE.out.trans (mc.trans pn)) ae _ _ _ _ _)
open Go.RowKit Fp
abbrev DV(d:Dy)(A:Option Addr)(c:Nat):Value:=.agg #[.bool d.neg,.slice A (gU d.m).length c,.int .i64 d.e]
theorem EZ{n k:Nat}(h:ia n<=32*k):(gU n).length<=k:=by
 refine qX (bD (oM _) ?_);rw[nD];exact bh ag h
theorem Fp.Dy.ib.vH{d:Dy}(h:d.ib):oH d.neg (gU d.m) d.e:=by
 refine⟨tn _,EZ ?_,by rw[jC];exact h⟩;rcases h.range with h0|⟨h1,_⟩
 .rw [h0];exact bL _
 .omega
theorem Fp.Dy.ib.len{d:Dy}(h:d.ib):(gU d.m).length<=256:=h.vH.2.1
theorem Fp.Dy.ib.exp{d:Dy}(h:d.ib):-16384<=d.e/\d.e<=16384:=h.vH.exp
theorem Fp.Dy.ib.bits{d:Dy}(h:d.ib):ia d.m<=4096:=by have:=h.vH.bits;rwa[jC]at this
theorem Fp.Dy.ib.XX{d:Dy}(h:d.ib)(h0:d.m≠0):(ia d.m:Int)+d.e<=16384:=by
 rcases h.range with h|⟨_,_,_,h⟩
 .exact absurd h h0
 .exact h
theorem jg.xT{w:World}{g n c:Nat}{s:Bool}{A:Option Addr}{e:Int}(h:jg w g s A n c e){g':Nat}(ks:g'≠g)(i:Nat)(v:Value):jg (w.setCell ⟨g',i,none⟩ v) g s A n c e:=by
 unfold jg at h ⊢;simp only[World.setCell,eG];rw[aQ ks];exact h
theorem jg.wO{w:World}{g n c:Nat}{s:Bool}{A:Option Addr}{e:Int}(h:jg w g s A n c e){g':Nat}(ks:g'≠g)(v0 v1 v2:Value):
 jg (((w.setCell ⟨g',0,none⟩ v0).setCell ⟨g',1,none⟩ v1).setCell ⟨g',2,none⟩ v2) g s A n c e:=((h.xT ks 0 v0).xT ks 1 v1).xT ks 2 v2
structure uz(d:Dy):Prop where
 len:(gU d.m).length<=256
 lo:-17000<=d.e
 hi:d.e<=17000
theorem Fp.Dy.ib.rf{d:Dy}(h:d.ib):uz d:=⟨h.len,by have:=h.exp;omega,by have:=h.exp;omega⟩
theorem ajf(a b:Dy)(A B:Option Addr)(c d:Nat)(w:World)(h:Sl w A c (gU a.m))(k:Sl w B d (gU b.m))(ha:uz a)(hb:uz b):
 Calls Tryz.prog 154 #[DV a A c,DV b B d] w (tv w (ml a b)):=by
 have:=aje a.neg A c (gU a.m) a.e b.neg B d (gU b.m) b.e w h k (by have:=ha.len;omega) (by have:=hb.len;omega) (by have:=ha.lo;omega) (by have:=ha.hi;omega) (by have:=hb.lo;omega) (by have:=hb.hi;omega);rw[jC,jC]at this;exact this
theorem ai5(a b:Dy)(A B:Option Addr)(c d:Nat)(w:World)(r:Bool)(h:Sl w A c (gU a.m))(k:Sl w B d (gU b.m))(ha:(gU a.m).length<=100000)(hb:(gU b.m).length<=100000)(hr:r=true↔a=b):
 Calls Tryz.prog 101 #[DV a A c,DV b B d] w fun e w'=>e = .returned (.bool r)/\iy w w':=
 ai4 a.neg A c (gU a.m) a.e b.neg B d (gU b.m) b.e w r h k (tn _) (tn _) ha hb (by
  rw[hr];obtain⟨s,m,e⟩:=a;obtain⟨t,n,f⟩:=b;simp only[Dy.mk.injEq];constructor
  .rintro ⟨x,y,z⟩;exact⟨x,z,by rw[y]⟩
  .rintro ⟨x,y,z⟩
   have:=congrArg val z;rw[jC,jC]at this;exact⟨x,this,y⟩)
theorem abK(a b:Dy)(A B:Option Addr)(c d:Nat)(w:World)(h:Sl w A c (gU a.m))(k:Sl w B d (gU b.m))(ha:a.ib)(hb:b.ib):
 Calls Tryz.prog 37 #[DV a A c,DV b B d] w fun e w'=>e = .returned (.int .i64 (jm a b))/\iy w w':=by
 have:=abJ a.neg A c (gU a.m) a.e b.neg B d (gU b.m) b.e w h k ha.vH hb.vH;rw[jC,jC]at this;exact this
theorem abH(a:Dy)(A:Option Addr)(c:Nat)(w:World)(h:Sl w A c (gU a.m))(ha:a.ib):
 Calls Tryz.prog 295 #[DV a A c] w fun e w'=>e = .returned (.int .i64 (ia a.m))/\iy w w':=by
 have:=abG a.neg A c (gU a.m) a.e w h ha.vH;rw[jC]at this;exact this
theorem abO(a:Dy)(A:Option Addr)(c:Nat)(w:World)(h:Sl w A c (gU a.m))(ha:a.ib):
 Calls Tryz.prog 35 #[DV a A c] w fun e w'=>e = .returned (.int .i64 a.iK)/\iy w w':=by
 have:=KQ a.neg A c (gU a.m) a.e w h ha.vH;rw[jC]at this;exact this
theorem Ha(a:Dy)(A:Option Addr)(c:Nat)(w:World)(h:Sl w A c (gU a.m))(ha:a.ib):
 Calls Tryz.prog 68 #[DV a A c] w fun e w'=>e = .returned (.bool true)/\iy w w':=
 A5 a.neg A c (gU a.m) a.e w true h (by have:=ha.exp;omega) (by have:=ha.exp;omega) (by simp[ha.vH])
open Go.RowKit Fp Pu
theorem O7:∀ w w',Tb w->Below w.heap.size w w'->Tb w':=fun _ _ h hb=>h.below hb
theorem mixed:Tryz.prog.follows .mixedOrders=true:= ah 
abbrev gV(f:FuncId)(args:List E)(jW:E):Prop:=PC Tryz.prog Tb f args jW
def gX(L:List Nat):E:=.sl false L.length 1 fun i _=>.v (.int .u32 (L.getD i 0:Int))
def gY(d:Dy):E:=.agg [.v (.bool d.neg),gX (gU d.m),.v (.int .i64 d.e)]
abbrev iP(z:Int):E:=.v (.int .i64 z)
abbrev bP(b:Bool):E:=.v (.bool b)
theorem uj{bs br:Nat->Prop}{w:World}{L:List Nat}{v:Value}(hk:iC L)(h:iG bs br w (gX L) v):∃ A c,v = .slice A L.length c/\Sl w A c L:=by
 cases h with
 |sl _ _ _ _ A c f hc hm h0 hl hr cell kk=>
  refine⟨A,c,rfl,hc,hm,hk,h0,fun i x hx=>?_⟩;obtain⟨hi,zY⟩:=bV.1 hx;obtain⟨b,o,e1,_,iD,lq⟩:=cell i 0 hi ag;have hv:=iG.kJ (kk i 0 hi ag);refine⟨b,o,e1,iD,?_⟩;rw[bO,bt,hv]at lq;rw[lq];simp[aW,hx]
theorem xy{B br:Nat->Prop}{w w':World}{A:Option Addr}{c:Nat}{L:List Nat}(hB:∀ b,B b->b<w.heap.size/\oI w b)(hb:iy w w')(h:Sl w' A c L):iG B br w' (gX L) (.slice A L.length c):=by
 refine .sl false L.length 1 _ A c (fun i _=>.int .u32 (L.getD i 0:Int)) h.cap h.pV h.wk (fun i j _ _=>⟨rfl,fun h=>by cases h⟩) (fun i j _ _=>rfl) (fun i j hi hj=>?_) (fun i j _ _=>.v _)
 .obtain rfl:j=0:= ae 
  obtain⟨b,o,e1,iD,lq⟩:=h.ln hi;have e2:L.getD i 0=L[i]:=by simp[aW,hi]
  refine⟨b,o,e1,fun wW=>?_,iD,by rw[bO,bt,lq,e2]⟩;obtain⟨h1,h2⟩:=hB b wW;exact(h2.Dd (hb.block b h1)) _ _ lq
theorem G9{bs br:Nat->Prop}{w:World}{d:Dy}{v:Value}(h:iG bs br w (gY d) v):∃ A c,v=DV d A c/\Sl w A c (gU d.m):=by
 obtain⟨vs,rfl,q⟩:=iG.Ca (show iG bs br w (.agg _) v from h);obtain⟨v1,vs,rfl,h1,q⟩:=q.lX;obtain⟨v2,vs,rfl,h2,q⟩:=q.lX;obtain⟨v3,vs,rfl,h3,q⟩:=q.lX;obtain rfl:=q.pY;obtain rfl:=iG.kJ h1;obtain rfl:=iG.kJ h3;obtain⟨A,c,rfl,hs⟩:=uj (kB _) h2;exact⟨A,c,rfl,hs⟩
theorem Q7{B br:Nat->Prop}{w w':World}{A:Option Addr}{c:Nat}{d:Dy}(hB:∀ b,B b->b<w.heap.size/\oI w b)(hb:iy w w')(h:Sl w' A c (gU d.m)):iG B br w' (gY d) (DV d A c):=
 kr.agg (.cons (.v _) (.cons (xy hB hb h) (.cons (.v _) (.nil _ _ _))))
section
variable {f:FuncId} {a b:Dy}
theorem xq(hc:∀ (vs:Array Value) (w:World),(callFunc f vs).run Tryz.prog w = .ok (.enter f vs) w){jW:E}{R:World->Ending->World->Prop}
 (H:∀ A c w,Sl w A c (gU a.m)->Tb w->Calls Tryz.prog f #[DV a A c] w (R w)) (hR:∀ (B:Nat->Prop) w e w',(∀ b,B b->b<w.heap.size/\oI w b)->R w e w'->∃ v,e = .returned v/\Below w.heap.size w w'/\iG B (fun _=>True) w' jW v):gV f [gY a] jW:=by
 refine⟨hc,fun w B vs hK hB hr=>?_⟩;obtain⟨v1,vs,rfl,h1,hr⟩:=hr.lX;obtain rfl:=hr.pY;obtain⟨A,c,rfl,s1⟩:=G9 h1;exact(H A c w s1 hK).mono fun e w' h=>hR B w e w' hB h
theorem Fv(hc:∀ (vs:Array Value) (w:World),(callFunc f vs).run Tryz.prog w = .ok (.enter f vs) w){jW:E}{R:World->Ending->World->Prop}
 (H:∀ A c A' c' w,Sl w A c (gU a.m)->Sl w A' c' (gU b.m)->Tb w->Calls Tryz.prog f #[DV a A c,DV b A' c'] w (R w)) (hR:∀ (B:Nat->Prop) w e w',(∀ b,B b->b<w.heap.size/\oI w b)->R w e w'->∃ v,e = .returned v/\Below w.heap.size w w'/\iG B (fun _=>True) w' jW v):gV f [gY a,gY b] jW:=by
 refine⟨hc,fun w B vs hK hB hr=>?_⟩;obtain⟨v1,vs,rfl,h1,hr⟩:=hr.lX;obtain⟨v2,vs,rfl,h2,hr⟩:=hr.lX;obtain rfl:=hr.pY;obtain⟨A,c,rfl,s1⟩:=G9 h1;obtain⟨A',c',rfl,s2⟩:=G9 h2;exact(H A c A' c' w s1 s2 hK).mono fun e w' h=>hR B w e w' hB h
end
theorem rv{x:Value}:∀ (B:Nat->Prop) (w:World) (e:Ending) (w':World),(∀ b,B b->b<w.heap.size/\oI w b)->(e = .returned x/\iy w w')->∃ v,e = .returned v/\Below w.heap.size w w'/\iG B (fun _=>True) w' (.v x) v:=
 fun _ _ _ _ _ h=>⟨x,h.1,h.2,.v x⟩
theorem rd{d:Dy}:∀ (B:Nat->Prop) (w:World) (e:Ending) (w':World),(∀ b,B b->b<w.heap.size/\oI w b)->tv w d e w'->∃ v,e = .returned v/\Below w.heap.size w w'/\iG B (fun _=>True) w' (gY d) v:=
 fun _ _ _ _ hB ⟨_,_,h1,h2,h3⟩=>⟨_,h1,h3,Q7 hB h3 h2⟩
theorem FM{d:Dy}{n:Int}:∀ (B:Nat->Prop) (w:World) (e:Ending) (w':World),(∀ b,B b->b<w.heap.size/\oI w b)->sN w d n e w'->∃ v,e = .returned v/\Below w.heap.size w w'/\iG B (fun _=>True) w' (.iw [gY d,iP n]) v:=
 fun _ _ _ _ hB ⟨_,_,h1,h2,h3⟩=>⟨_,h1,h3,kr.iw (.cons (Q7 hB h3 h2) (.cons (.v _) (.nil _ _ _)))⟩
theorem vu:E.le (.agg [bP false,.v (.slice none 0 0),iP 0]) (gY jx):=by
 have:gY jx = .agg [bP false,.sl false 0 1 fun i _=>.v (.int .u32 (((gU 0).getD i 0:Nat):Int)),iP 0]:=by
  show E.agg [bP false,gX (gU 0),iP 0]=_;unfold gX;rw[nh];rfl
 rw[this];exact .agg (.cons (.refl _) (.cons (.nil _ _ _) (.cons (.refl _) .nil)))
theorem nS(a b:Dy)(ha:a.ib)(hb:b.ib):gV 37 [gY a,gY b] (iP (jm a b)):=Fv Tryz.call37 (fun A c A' c' w h k _=>abK a b A A' c c' w h k ha hb) rv
theorem nT(a:Dy)(ha:a.ib):gV 35 [gY a] (iP a.iK):=xq Tryz.call35 (fun A c w h _=>abO a A c w h ha) rv
theorem qg(a:Dy)(ha:a.ib):gV 68 [gY a] (bP true):=xq Tryz.call68 (fun A c w h _=>Ha a A c w h ha) rv
theorem G7(a:Dy)(ha:a.ib):gV 295 [gY a] (iP (ia a.m)):=xq Tryz.call295 (fun A c w h _=>abH a A c w h ha) rv
theorem ajg(a b:Dy)(ha:uz a)(hb:uz b):gV 154 [gY a,gY b] (gY (ml a b)):=Fv Tryz.call154 (fun A c A' c' w h k _=>ajf a b A A' c c' w h k ha hb) rd
open Go.RowKit Fp Pu
def TT:List TI:=[
 ⟨3,.int .i64,⟨.int .i64, "int", 1,8,false,8,8,some (.int .i64 0),true,#[]⟩⟩,
 ⟨4,.bool,⟨.bool, "bool", 1,1,false,1,1,some (.bool false),true,#[]⟩⟩,
 ⟨5,.int .u8,⟨.int .u8, "uint8", 1,1,false,1,1,some (.int .u8 0),true,#[]⟩⟩,
 ⟨9,.string,⟨.string, "string", 1,16,true,8,8,some (.string ⟨#[]⟩),true,#[]⟩⟩,
 ⟨22,.slice 99,⟨.slice 99, "[]api.Op", 1,24,true,8,8,some (.slice none 0 0),false,#[]⟩⟩,
 ⟨23,.slice 3,⟨.slice 3, "[]int", 1,24,true,8,8,some (.slice none 0 0),false,#[]⟩⟩,
 ⟨25,.struct #[⟨"Ins", 3,0,false, "", "", 0⟩,⟨"Ops", 22,1,false, "", "", 8⟩,⟨"Outs", 23,2,false, "", "", 32⟩],⟨.named "flowpipe/api.Tape" 24, "api.Tape", 3,56,true,8,8,some (.agg #[.int .i64 0,.slice none 0 0,.slice none 0 0]),false,#[]⟩⟩,
 ⟨26,.slice 41,⟨.slice 41, "[]api.Interval", 1,24,true,8,8,some (.slice none 0 0),false,#[]⟩⟩,
 ⟨28,.struct #[⟨"Tape", 25,0,false, "", "", 0⟩,⟨"States", 3,3,false, "", "", 56⟩,⟨"Params", 26,4,false, "", "", 64⟩],⟨.named "flowpipe/api.System" 27, "api.System", 5,88,true,8,8,some (.agg #[.int .i64 0,.slice none 0 0,.slice none 0 0,.int .i64 0,.slice none 0 0]),false,#[]⟩⟩,
 ⟨29,.slice 79,⟨.slice 79, "[]uint32", 1,24,true,8,8,some (.slice none 0 0),false,#[]⟩⟩,
 ⟨31,.struct #[⟨"Neg", 4,0,false, "", "", 0⟩,⟨"M", 29,1,false, "", "", 8⟩,⟨"E", 3,2,false, "", "", 32⟩],⟨.named "flowpipe/api.Dyadic" 30, "api.Dyadic", 3,40,true,8,8,some (.agg #[.bool false,.slice none 0 0,.int .i64 0]),false,#[]⟩⟩,
 ⟨34,.func #[26] #[4] false,⟨.func #[26] #[4] false, "func([]api.Interval) bool", 1,8,true,8,8,some (.nilFunc),false,#[]⟩⟩,
 ⟨41,.struct #[⟨"Lo", 31,0,false, "", "", 0⟩,⟨"Hi", 31,3,false, "", "", 40⟩,⟨"All", 4,6,false, "", "", 80⟩],⟨.named "flowpipe/api.Interval" 40, "api.Interval", 7,88,true,8,8,some (.agg #[.bool false,.slice none 0 0,.int .i64 0,.bool false,.slice none 0 0,.int .i64 0,.bool false]),false,#[]⟩⟩,
 ⟨42,.func #[41] #[4] false,⟨.func #[41] #[4] false, "func(api.Interval) bool", 1,8,true,8,8,some (.nilFunc),false,#[]⟩⟩,
 ⟨45,.int .i64,⟨.named "flowpipe/api.Errno" 3, "api.Errno", 1,8,false,8,8,some (.int .i64 0),true,#[]⟩⟩,
 ⟨49,.slice 5,⟨.slice 5, "[]uint8", 1,24,true,8,8,some (.slice none 0 0),false,#[]⟩⟩,
 ⟨62,.func #[31,3] #[31,45] false,⟨.func #[31,3] #[31,45] false, "func(api.Dyadic, int) (api.Dyadic, api.Errno)", 1,8,true,8,8,some (.nilFunc),false,#[]⟩⟩,
 ⟨67,.func #[41,41,3] #[41] false,⟨.func #[41,41,3] #[41] false, "func(api.Interval, api.Interval, int) api.Interval", 1,8,true,8,8,some (.nilFunc),false,#[]⟩⟩,
 ⟨68,.func #[3] #[4] false,⟨.func #[3] #[4] false, "func(int) bool", 1,8,true,8,8,some (.nilFunc),false,#[]⟩⟩,
 ⟨71,.func #[41,41] #[4] false,⟨.func #[41,41] #[4] false, "func(api.Interval, api.Interval) bool", 1,8,true,8,8,some (.nilFunc),false,#[]⟩⟩,
 ⟨79,.int .u32,⟨.int .u32, "uint32", 1,4,false,4,4,some (.int .u32 0),true,#[]⟩⟩,
 ⟨87,.slice 26,⟨.slice 26, "[][]api.Interval", 1,24,true,8,8,some (.slice none 0 0),false,#[]⟩⟩,
 ⟨97,.struct #[⟨"N", 3,0,false, "", "", 0⟩,⟨"D", 3,1,false, "", "", 8⟩],⟨.named "flowpipe/api.Ratio" 96, "api.Ratio", 2,16,false,8,8,some (.agg #[.int .i64 0,.int .i64 0]),true,#[]⟩⟩,
 ⟨99,.struct #[⟨"Kind", 3,0,false, "", "", 0⟩,⟨"A", 3,1,false, "", "", 8⟩,⟨"B", 3,2,false, "", "", 16⟩,⟨"N", 3,3,false, "", "", 24⟩,⟨"C", 97,4,false, "", "", 32⟩],⟨.named "flowpipe/api.Op" 98, "api.Op", 6,48,false,8,8,some (.agg #[.int .i64 0,.int .i64 0,.int .i64 0,.int .i64 0,.int .i64 0,.int .i64 0]),true,#[]⟩⟩,
 ⟨108,.slice 110,⟨.slice 110, "[][2]api.Dyadic", 1,24,true,8,8,some (.slice none 0 0),false,#[]⟩⟩,
 ⟨110,.array 2 31,⟨.array 2 31, "[2]api.Dyadic", 6,80,true,8,8,some (.agg #[.bool false,.slice none 0 0,.int .i64 0,.bool false,.slice none 0 0,.int .i64 0]),false,#[]⟩⟩,
 ⟨123,.int .u64,⟨.int .u64, "uint64", 1,8,false,8,8,some (.int .u64 0),true,#[]⟩⟩,
 ⟨124,.int .u64,⟨.int .u64, "uint", 1,8,false,8,8,some (.int .u64 0),true,#[]⟩⟩,
 ⟨129,.func #[31,31,3] #[31,45] false,⟨.named "flowpipe/interval.rounded" 91, "interval.rounded", 1,8,true,8,8,some (.nilFunc),false,#[]⟩⟩,
 ⟨130,.array 4 110,⟨.array 4 110, "[4][2]api.Dyadic", 24,320,true,8,8,some (.agg #[.bool false,.slice none 0 0,.int .i64 0,.bool false,.slice none 0 0,.int .i64 0,.bool false,.slice none 0 0,.int .i64 0,.bool false,.slice none 0 0,.int .i64 0,.bool false,.slice none 0 0,.int .i64 0,.bool false,.slice none 0 0,.int .i64 0,.bool false,.slice none 0 0,.int .i64 0,.bool false,.slice none 0 0,.int .i64 0]),false,#[]⟩⟩,
 ⟨148,.struct #[⟨"m", 29,0,false, "", "flowpipe/round", 0⟩,⟨"e", 3,1,false, "", "flowpipe/round", 24⟩,⟨"more", 4,2,false, "", "flowpipe/round", 32⟩],⟨.named "flowpipe/round.exact" 147, "round.exact", 3,40,true,8,8,some (.agg #[.slice none 0 0,.int .i64 0,.bool false]),false,#[]⟩⟩,
 ⟨161,.slice 29,⟨.slice 29, "[][]uint32", 1,24,true,8,8,some (.slice none 0 0),false,#[]⟩⟩,
 ⟨163,.func #[29] #[4] false,⟨.func #[29] #[4] false, "func([]uint32) bool", 1,8,true,8,8,some (.nilFunc),false,#[]⟩⟩,
 ⟨168,.struct #[⟨"o", 99,0,false, "", "flowpipe/gradient", 0⟩,⟨"v", 41,6,false, "", "flowpipe/gradient", 48⟩,⟨"a", 41,13,false, "", "flowpipe/gradient", 136⟩,⟨"b", 41,20,false, "", "flowpipe/gradient", 224⟩,⟨"da", 41,27,false, "", "flowpipe/gradient", 312⟩,⟨"db", 41,34,false, "", "flowpipe/gradient", 400⟩,⟨"p", 3,41,false, "", "flowpipe/gradient", 488⟩],⟨.named "flowpipe/gradient.node" 167, "gradient.node", 42,496,true,8,8,some (.agg #[.int .i64 0,.int .i64 0,.int .i64 0,.int .i64 0,.int .i64 0,.int .i64 0,.bool false,.slice none 0 0,.int .i64 0,.bool false,.slice none 0 0,.int .i64 0,.bool false,.bool false,.slice none 0 0,.int .i64 0,.bool false,.slice none 0 0,.int .i64 0,.bool false,.bool false,.slice none 0 0,.int .i64 0,.bool false,.slice none 0 0,.int .i64 0,.bool false,.bool false,.slice none 0 0,.int .i64 0,.bool false,.slice none 0 0,.int .i64 0,.bool false,.bool false,.slice none 0 0,.int .i64 0,.bool false,.slice none 0 0,.int .i64 0,.bool false,.int .i64 0]),false,#[]⟩⟩,
 ⟨170,.slice 31,⟨.slice 31, "[]api.Dyadic", 1,24,true,8,8,some (.slice none 0 0),false,#[]⟩⟩,
 ⟨201,.struct #[⟨"p", 3,0,false, "", "flowpipe/exponent", 0⟩],⟨.named "flowpipe/exponent.work" 200, "exponent.work", 1,8,false,8,8,some (.agg #[.int .i64 0]),true,#[⟨"flowpipe/exponent.add", 136,#[],some (308,false)⟩,⟨"flowpipe/exponent.div", 136,#[],some (307,false)⟩,⟨"flowpipe/exponent.exp", 177,#[],some (320,false)⟩,⟨"flowpipe/exponent.halved", 179,#[],some (306,false)⟩,⟨"flowpipe/exponent.log", 177,#[],some (309,false)⟩,⟨"flowpipe/exponent.mul", 136,#[],some (310,false)⟩,⟨"flowpipe/exponent.small", 42,#[],some (322,false)⟩]⟩⟩,
 ⟨209,.struct #[⟨"neg", 4,0,false, "", "flowpipe/circle", 0⟩,⟨"m", 29,1,false, "", "flowpipe/circle", 8⟩],⟨.named "flowpipe/circle.fix" 208, "circle.fix", 2,32,true,8,8,some (.agg #[.bool false,.slice none 0 0]),false,#[⟨"flowpipe/circle.add", 220,#[],some (335,false)⟩,⟨"flowpipe/circle.by", 216,#[],some (342,false)⟩,⟨"flowpipe/circle.minus", 214,#[],some (326,false)⟩,⟨"flowpipe/circle.times", 217,#[],some (332,false)⟩,⟨"flowpipe/circle.zero", 32,#[],some (336,false)⟩]⟩⟩,
 ⟨220,.func #[209] #[209] false,⟨.func #[209] #[209] false, "func(circle.fix) circle.fix", 1,8,true,8,8,some (.nilFunc),false,#[]⟩⟩]
theorem J7:mB Tryz.prog TT:=Gs.ok ⟨⟨Tryz.underlying3,ah⟩,⟨Tryz.underlying4,ah⟩,⟨Tryz.underlying5,ah⟩,⟨Tryz.underlying9,ah⟩,⟨Tryz.underlying22,ah⟩,⟨Tryz.underlying23,ah⟩,⟨Tryz.underlying25,ah⟩,⟨Tryz.underlying26,ah⟩,⟨Tryz.underlying28,ah⟩,⟨Tryz.underlying29,ah⟩,⟨Tryz.underlying31,ah⟩,⟨Tryz.underlying34,ah⟩,⟨Tryz.underlying41,ah⟩,⟨Tryz.underlying42,ah⟩,⟨Tryz.underlying45,ah⟩,⟨Tryz.underlying49,ah⟩,⟨Tryz.underlying62,ah⟩,⟨Tryz.underlying67,ah⟩,⟨Tryz.underlying68,ah⟩,⟨Tryz.underlying71,ah⟩,⟨Tryz.underlying79,ah⟩,⟨Tryz.underlying87,ah⟩,⟨Tryz.underlying97,ah⟩,⟨Tryz.underlying99,ah⟩,⟨Tryz.underlying108,ah⟩,⟨Tryz.underlying110,ah⟩,⟨Tryz.underlying123,ah⟩,⟨Tryz.underlying124,ah⟩,⟨Tryz.underlying129,ah⟩,⟨Tryz.underlying130,ah⟩,⟨Tryz.underlying148,ah⟩,⟨Tryz.underlying161,ah⟩,⟨Tryz.underlying163,ah⟩,⟨Tryz.underlying168,ah⟩,⟨Tryz.underlying170,ah⟩,⟨Tryz.underlying201,ah⟩,⟨Tryz.underlying209,ah⟩,⟨Tryz.underlying220,ah⟩,trivial⟩
end Go.Proofs.YtdgnpeddgdclhaaGreatDoor
namespace Go.Proofs.YtdgnpeddgdclhaaGreatDoor.Pu
open Go.RowKit
def E.lZ:E->Nat->Nat->E
 | .sl _ _ _ el,i,j=>el i j
 |_,_,_=>.any
section
variable {P:Program} {K:World->Prop}
theorem Sp.pre{c:Code}{σ τ:PS}{Q:Ex->PS->Prop}(h:PS.le σ τ)(k:Sp P K c τ Q):Sp P K c σ Q:=fun w0 B a w L g r=>
 let⟨L',r'⟩:=h w0 B a w L (fun b hb=>(g.hB b hb).1) r;k w0 B a w L' g r'
theorem Sp.post{c:Code}{σ:PS}{Q Q':Ex->PS->Prop}(h:Sp P K c σ Q)(k:∀ e τ,Q e τ->∃ τ',PS.le τ τ'/\Q' e τ'):Sp P K c σ Q':=fun w0 B a w L g r=>
 Code.wp_mono (fun _ _ _ ⟨ex,τ,L',h1,h2,h3⟩=>let⟨τ',q1,q2⟩:=k ex τ h2;let⟨L2,r2⟩:=q1 w0 B _ _ L' (fun b hb=>(g.hB b hb).1) h3;⟨ex,τ',L2,h1,q2,r2⟩) (h w0 B a w L g r)
theorem Sp.fam{α:Type}(f:α->PS)(p:α->Prop)(m:α->Nat){b:Code}{e:Ex}{τ:PS}
 (step:∀ x,p x->Sp P K b (f x) (fun e' υ=>(e' = .normal/\∃ y,p y/\m y<m x/\υ=f y)\/(e' ≠ .normal/\e'=e/\υ=τ))) {σ:PS} (x:α) (hx:p x) (h0:PS.le σ (f x)):
 Sp P K (.loop b) σ (fun e' υ=>e'=e/\υ=τ):=by
 refine Sp.pre h0 ?_;refine Sp.loop (Q:=fun e' υ=>e'=e/\υ=τ) (fun n σ=>∃ x,p x/\m x=n/\σ=f x) (fun n σ ⟨x,h1,h2,h3⟩=>?_) (m x) (f x) ⟨x,hx,rfl,rfl⟩;subst h3 h2;exact(step x h1).mono fun e' υ h=>h.imp (fun⟨q1,y,q2,q3,q4⟩=>⟨q1,m y,q3,y,q2,rfl,q4⟩) id
theorem Sp.ac0{α:Type}{f:α->PS}{p:α->Prop}{m:α->Nat}{b:Code}{e:Ex}{τ υ:PS}{x:α}(y:α)(h:Sp P K b (f x) (fun e' υ'=>e' = .normal/\υ'=υ))(hy:p y)(hm:m y<m x)(hl:PS.le υ (f y)):
 Sp P K b (f x) (fun e' υ=>(e' = .normal/\∃ y,p y/\m y<m x/\υ=f y)\/(e' ≠ .normal/\e'=e/\υ=τ)):=
 h.post fun _ _ ⟨h1,h2⟩=>⟨f y,h2▸hl,.inl ⟨h1,y,hy,hm,rfl⟩⟩
theorem Sp.ac1{α:Type}{f:α->PS}{p:α->Prop}{m:α->Nat}{b:Code}{e:Ex}{τ υ:PS}{x:α}(h:Sp P K b (f x) (fun e' υ'=>e'=e/\υ'=υ))(he:e ≠ .normal)(hl:PS.le υ τ):
 Sp P K b (f x) (fun e' υ=>(e' = .normal/\∃ y,p y/\m y<m x/\υ=f y)\/(e' ≠ .normal/\e'=e/\υ=τ)):=
 h.post fun _ _ ⟨h1,h2⟩=>⟨τ,h2▸hl,.inr ⟨h1▸he,h1,rfl⟩⟩
end
def Aj(k:Nat):Code->Option Code
 | .loop b=>if Nat.beq (Ee b) k then some b else Aj k b
 | .seq a b=>match Aj k a with
  |some c=>some c
  |none=>Aj k b
 | .cond _ a b=>match Aj k a with
  |some c=>some c
  |none=>Aj k b
 | .block _ b=>Aj k b
 | .scope b=>Aj k b
 |_=>none
def Z8(k:Nat)(fn:Func):Code:=((fn.body.bind (Aj k)).getD .skip)
theorem Bx.le.iS{a b:Bx}(h:a=b):Bx.le a b:=h▸Bx.le.refl a
theorem Bx.le.cells{T:TypeId}{l m:List E}(hn:(l.all E.nk=true->m.all E.nk=true))(h:tu l m):Bx.le (.cells T l) (.cells T m):=⟨hn,fun _ _ _ _ _ ⟨b,vs,h1,h2,h3,h4,h5⟩=>⟨b,vs,h1,h2,h3,h.Jr h4,h5⟩⟩
theorem Bx.le.row{nl:Bool}{T:TypeId}{n n' sz:Nat}{el el':Nat->Nat->E}(hn:n=n')(h:∀ i j,i<n->j<sz->E.le (el i j) (el' i j)/\(el' i j).nr 2=true):Bx.le (.row nl T n sz el) (.row nl T n' sz el'):=
 ⟨id,fun _ _ _ _ _ ⟨f,h1,h2,h3⟩=>by subst hn;exact⟨f,h1,h2,fun i j hi hj=>⟨(h i j hi hj).1 _ _ _ _ (h3 i j hi hj).1,(h i j hi hj).2⟩⟩⟩
theorem PS.le.afR{σ τ:PS}(hn:σ.n=τ.n)(kg:(τ.b.all fun x=>x.2.nl)=true)(hr:FO τ=true)(ht:wG σ τ.t)(hb:vv σ τ.b):PS.le σ τ:=fun w0 B a w L _ r=>by
 let L':Lk:=⟨fun id=>L.oi id/\(τ.bo id).isSome=true,fun id x=>L.own id x/\(τ.bo id).isSome=true,L.val,L.jt⟩
 have iD:sM L w L' w:=⟨aU _,fun x _ ⟨id,h,_⟩=>⟨id,h⟩,fun _ _ _=>rfl⟩
 refine⟨L',r.hd,by rw[<-hn];exact r.hs,fun t=>?_,fun id b h=>?_,fun id=>?_,fun id x h=>⟨r.hn id x h.1,h.2⟩,fun id x h=>r.hw id x h.1,fun id id' x h k=>r.hi id id' x h.1 k.1,r.he,fun h id b k=>?_⟩
 .have hg:τ.get t=((look τ.t t)).getD (.e .any):=rfl
  cases hl:look τ.t t with
  |none=>rw[hg,hl];exact .any _
  |some p=>
   rw[hg,hl];have:=ht.get hl _ _ _ _ _ (r.ht t);refine nI.move iD this fun id hid uV=>⟨⟨uV,?_⟩,rfl,fun _=>rfl⟩
   have q:=bF.1 hr _ (MY hl);exact bF.1 q id hid
 .obtain ⟨b',h1,h2⟩:=hb.get h
  have hs:(τ.bo id).isSome=true:=by rw[h];rfl
  exact(h2.2 _ _ _ _ _ (r.hb id b' h1)).later iD rfl (fun x=>⟨fun q=>q.1,fun q=>⟨q,hs⟩⟩) (fun _=>rfl) fun _ _=>rfl
 .show L.oi id/\(τ.bo id).isSome=true↔(τ.bo id).isSome=true
  refine⟨fun h=>h.2,fun h=>⟨(r.hv id).2 ?_,h⟩⟩;obtain⟨b,ke⟩:=fZ.1 h;obtain⟨b',h1,_⟩:=hb.get ke;rw[h1];rfl
 .exact bF.1 kg _ (MY k)
def PV.wP(id:Nat)(e:E)(p:PV):PV:=match p with
 | .own i=>if Nat.beq i id then .e e else .own i
 |p=>if p.qG.any (Nat.beq id)then .e .any else p
def PS.wP(σ:PS)(id:Nat)(e:E):PS:={ σ with t:=σ.t.map fun x=>(x.1,x.2.wP id e),b:=σ.b.filter fun x=>!Nat.beq x.1 id }
def Bx.as:Bx->Option E
 | .row nl _ n sz el=>some (.sl nl n sz el)
 | .qa nl _ _ n sz len el none=>some (.sl true n 1 fun k _=>.sl nl (len k) sz (el k))
 |_=>none
theorem PS.le.freeze{σ:PS}(id:Nat){b:Bx}{e:E}(ke:σ.bo id=some b)(he:b.as=some e):PS.le σ (σ.wP id e):=fun w0 B a w L hB r=>by
 let L':Lk:=⟨fun i=>L.oi i/\i≠id,fun i x=>L.own i x/\i≠id,L.val,L.jt⟩
 have iD:sM L w L' w:=⟨aU _,fun x _ ⟨i,h,_⟩=>⟨i,h⟩,fun _ _ _=>rfl⟩
 have vR:∀ i,(σ.wP id e).bo i=if i=id then none else σ.bo i:=by
  intro i;unfold PS.bo PS.wP;by_cases h:i=id
  .subst h;simp only[bk];exact Us _ _
  .rw [aQ h];exact E4 _ _ _ (fun e=>h e.symm)
 have wW:∀ x,L.own id x->¬jB B L' x:=by
  rintro x hx (h|⟨i,h1,h2⟩)
  .have:=hB x h;have:=(r.hw id x hx).1;omega
  .exact h2 (r.hi i id x h1 hx)
 have own:∀ (v:Value) (T:TypeId) (n sz:Nat) (f:Nat->Nat->Value) (nl:Bool) (el:Nat->Nat->E),qs w v T n sz f nl->(∀ x,v.ownBlock=some x->L.own id x) ->
  (∀ i j,i<n->j<sz->iG (jB B L) (ko L) w (el i j) (f i j)/\(el i j).nr 2=true)->iG (jB B L') (ko L') w (.sl nl n sz el) v:=by
  intro v T n sz f nl el h1 h2 h3;rcases h1 with⟨rfl,rfl⟩|⟨b,c,cur,rfl,hg,pQ,nU,nK,lq,kg⟩
  .exact .sl nl 0 sz el none 0 f (aU _) ag (fun _=>rfl) (fun i j hi=>absurd hi (bj i)) (fun i j hi=>absurd hi (bj i)) (fun i j hi=>absurd hi (bj i)) (fun i j hi=>absurd hi (bj i))
  .have q9:=h2 b rfl
   refine .sl nl n sz el _ c f pQ (by unfold maxLen at nU;omega) (fun h=>by cases h) (fun i j hi hj=>⟨(lq i j hi hj).2,fun hn=>kg hn _ (dz (lq i j hi hj).1)⟩) (fun i j hi hj=>(h3 i j hi hj).2)
    (fun i j hi hj=>⟨b,0,rfl,wW b q9,(r.hw id b q9).2,?_⟩) (fun i j hi hj=>iD.lg (h3 i j hi hj).1)
   rw[bX];simp only[World.cell?,hg];simpa using(lq i j hi hj).1
 have hold:∀ v,v=L.val id->iG (jB B L') (ko L') w e v:=by
  rintro v rfl;have H8:=r.hb id b ke;cases b with
  |cells T l=>cases he
  |row nl T n sz el=>
   cases he;obtain⟨f,h1,h2,h3⟩:=H8;exact own _ T n sz f nl el h1 (fun x hx=>(h2 x).2 hx) h3
  |qa nl T1 T0 n sz len el pend=>
   cases pend with
   |some k=>cases he
   |none=>
    cases he;obtain⟨b,c,cur,f,h1,h2,h3,h4,h5,h6,h7,h8,h9,vN,wQ⟩:=H8;have q9:L.own id b:=(h9 b).2 (.inl rfl);rw[h1];refine .sl true n 1 _ _ c (fun k _=>L.jt id k) h3 (by unfold maxLen at h4;omega) (fun h=>by cases h) (fun k j hk hj=>?_) (fun k j hk hj=>rfl)
     (fun k j hk hj=>⟨b,0,rfl,wW b q9,(r.hw id b q9).2,?_⟩) (fun k j hk hj=>own _ T0 (len k) sz (f k) nl (el k) (h8 k hk).1 (fun x hx=>(h9 x).2 (.inr ⟨k,hk,hx⟩)) (h8 k hk).2)
    .obtain ⟨q1,q2⟩:=h7 _ (dz (h6 k hk aj))
     exact⟨q1,fun _=>q2⟩
    .rw [bX,bO]
     obtain rfl:j=0:= ae ;simp only[World.cell?,h2];simpa using h6 k hk aj 
 refine⟨L',r.hd,r.hs,fun t=>?_,fun i b' h=>?_,fun i=>?_,fun i x h=>⟨r.hn i x h.1,h.2⟩,fun i x h=>r.hw i x h.1,fun i i' x h k=>r.hi i i' x h.1 k.1,r.he,fun h i b' k=>?_⟩
 .have hg:(σ.wP id e).get t=(σ.get t).wP id e:=by
   unfold PS.get PS.wP;rw[Ut];cases look σ.t t<;>rfl
  rw[hg];have k:=r.ht t;generalize σ.get t=p at k;have move:∀ (p:PV) (v:Value),nI (jB B L) (ko L) L w p v->(p.qG.any (Nat.beq id))=false->nI (jB B L') (ko L') L' w p v:=by
   intro p v k hp;refine nI.move iD k fun i hi uV=>⟨⟨uV,?_⟩,rfl,fun _=>rfl⟩
   rintro rfl;have:=dW.1 hp i hi;simp at this
  have gen:∀ (p:PV) (v:Value),nI (jB B L) (ko L) L w p v->nI (jB B L') (ko L') L' w (if p.qG.any (Nat.beq id)then .e .any else p) v:=by
   intro p v k;cases hp:p.qG.any (Nat.beq id)with
   |true=>exact .any _
   |false=>exact move p v k hp
  cases p with
  |own i=>
   simp only[PV.wP];by_cases hi:i=id
   .subst hi
    rw[du,aR rfl];exact hold _ k.2
   .rw [dv hi,aQ ag]
    exact⟨⟨k.1,hi⟩,k.2⟩
  |_=>exact gen _ _ k
 .rw [vR]at h
  split at h
  .cases h
  .rename_i hi
   exact(r.hb i b' h).later iD rfl (fun x=>⟨fun q=>q.1,fun q=>⟨q,hi⟩⟩) (fun _=>rfl) fun _ _=>rfl
 .rw [vR]
  show L.oi i/\i≠id↔_;by_cases hi:i=id
  .subst hi;simp
  .simp only[hi,cV,ep,and_true,a6]
   exact r.hv i
 .rw [vR]at k
  split at k
  .cases k
  .exact r.hl h i b' k
def PS.B9(σ:PS)(t id:Nat)(b:Bx):PS:={ σ with t:=(t,.own id)::σ.t.filter (fun x=>!Nat.beq x.1 t),b:=(id,b)::σ.b }
theorem PS.le.YS{σ:PS}(t id:Nat){nl:Bool}{T:TypeId}{sz:Nat}{el:Nat->Nat->E}(ke:σ.bo id=none)(hg:σ.get t = .e (.v (.slice none 0 0)))(kg:σ.nl=true->nl=true):PS.le σ (σ.B9 t id (.row nl T 0 sz el)):=fun w0 B a w L hB r=>by
 have uU:¬L.oi id:=fun h=>by have:=(r.hv id).1 h;rw[ke]at this;cases this
 let L':Lk:=⟨fun i=>L.oi i\/i=id,L.own,fun i=>if i=id then .slice none 0 0 else L.val i,L.jt⟩
 have iD:sM L w L' w:=⟨aU _,fun x _ h=>h,fun _ _ _=>rfl⟩
 have vR:∀ i,(σ.B9 t id (.row nl T 0 sz el)).bo i=if i=id then some (.row nl T 0 sz el)else σ.bo i:=by
  intro i;unfold PS.bo PS.B9;rw[tf];by_cases h:id=i
  .rw [aR h,aR h.symm]
  .rw [aQ h,aQ (fun e=>h e.symm)]
 have hv:a.tmps.getD t undef = .slice none 0 0:=by
  have:=r.ht t;rw[hg]at this;exact iG.kJ this
 refine⟨L',r.hd,r.hs,fun s=>?_,fun i b' h=>?_,fun i=>?_,fun i x h=>.inl (r.hn i x h),r.hw,r.hi,r.he,fun h i b' k=>?_⟩
 .have hgs:(σ.B9 t id (.row nl T 0 sz el)).get s=if t=s then .own id else σ.get s:=by
   unfold PS.get PS.B9;simp only[tf];by_cases h:t=s
   .rw [aR h,aR h];rfl
   .rw [aQ h,aQ h,E4 _ _ _ h]
  rw[hgs];by_cases h:t=s
  .subst h
   rw[aR rfl,hv];exact⟨.inr rfl,(aR rfl).symm⟩
  .rw [aQ h]
   refine nI.move iD (r.ht s) fun i _ uV=>⟨.inl uV,aQ (fun(q:i=id)=>uU (q▸uV)),fun _=>rfl⟩
 .rw [vR]at h
  split at h
  .rename_i hi
   subst hi;cases h;refine⟨fun _ _=>undef,.inl ⟨aR rfl,rfl⟩,fun x=>⟨fun q=>absurd (r.hn _ _ q) uU,fun q=>?_⟩,fun i j hi=>absurd hi (bj i)⟩;have e1:L'.val i = .slice none 0 0:=aR rfl;rw[e1]at q;cases q
  .rename_i hi
   exact(r.hb i b' h).later iD (aQ hi) (fun _=>Iff.rfl) (fun _=>rfl) fun _ _=>rfl
 .rw [vR]
  show L.oi i\/i=id↔_;by_cases hi:i=id
  .subst hi;simp
  .simp only[hi,or_false,a6]
   exact r.hv i
 .rw [vR]at k
  split at k
  .cases k;exact kg h
  .exact r.hl h i b' k
end Go.Proofs.YtdgnpeddgdclhaaGreatDoor.Pu
namespace Go.Proofs.YtdgnpeddgdclhaaGreatDoor.Fp
def mT(x i:Nat)(b o:List Nat):Nat->List Nat×Nat
 | 0=>(o,0)
 |k+1=>
  let r:=mT x i b o k
  let z:=x*b.getD k 0+r.1.getD (i+k) 0+r.2
  (r.1.set (i+k) (z%4294967296),z/4294967296)
def lr(a b:List Nat):Nat->List Nat
 | 0=>List.replicate (a.length+b.length) 0
 |i+1=>
  let r:=mT (a.getD i 0) i b (lr a b i) b.length
  r.1.set (i+b.length) (r.2%4294967296)
theorem UQ{x y:Nat}(hx:x<4294967296)(hy:y<4294967296):x*y<=18446744065119617025:=by
 have:=cK (show x<=4294967295 by omega) (show y<=4294967295 by omega);omega
theorem xz{L:List Nat}{k x:Nat}(hk:k<L.length):val (L.set k x)+4294967296^k*L.getD k 0=val L+4294967296^k*x:=by
 have:=OJ (x:=x) hk;rwa[aW,bd hk]
theorem uN{L:List Nat}{k j x:Nat}(h:k≠j):(L.set k x).getD j 0=L.getD j 0:=by
 simp only[aW,gq h]
theorem Ln{L:List Nat}{k x:Nat}(h:k<L.length):(L.set k x).getD k 0=x:=by
 simp[aW,h]
structure YI(x i:Nat)(b o:List Nat)(k:Nat)(r:List Nat×Nat):Prop where
 ok:iC r.1
 len:r.1.length=o.length
 lt:r.2<4294967296
 eq:val r.1+4294967296^(i+k)*r.2=val o+4294967296^i*(x*val (b.take k))
 qb:∀ j,i+k<=j->r.1.getD j 0=o.getD j 0
theorem Fb{x i:Nat}{b o:List Nat}(hx:x<4294967296)(hb:iC b)(ho:iC o)(hl:i+b.length<=o.length):∀ k,k<=b.length->YI x i b o k (mT x i b o k)
 | 0,_=>⟨ho,rfl,amR _,by simp[mT,val],fun _ _=>rfl⟩
 |k+1,hk=>by
  obtain⟨h1,h2,h3,h4,h5⟩:=Fb hx hb ho hl k ae;have hy:=hb.getD k;have hw:=h1.getD (i+k);have hm:=UQ hx hy;have hv:=uy b k;simp only[mT];generalize mT x i b o k=r at *
  generalize hz:x*b.getD k 0+r.1.getD (i+k) 0+r.2=z;have tV:=xz (L:=r.1) (k:=i+k) (x:=z%4294967296) ae;refine⟨h1.set _ (bg _ ag),by simpa using h2,by show z/4294967296<_;omega,?_,fun j hj=>?_⟩
  .have e1:z=z%4294967296+4294967296*(z/4294967296):=(dq z _).symm
   show val (r.1.set (i+k) (z%4294967296))+4294967296^(i+(k+1))*(z/4294967296)=_;rw[hv,bn x,bn (4294967296^i),<-cE (val o),<-h4];have e2:4294967296^(i+(k+1))*(z/4294967296)=4294967296^(i+k)*(4294967296*(z/4294967296)):=by rw[show i+(k+1)=(i+k)+1 by omega,aZ,bc]
   have e3:4294967296^i*(x*(4294967296^k*b.getD k 0))=4294967296^(i+k)*(x*b.getD k 0):=by rw[aV];simp only[bc,cD]
   rw[e2,e3];have e4:4294967296^(i+k)*z=4294967296^(i+k)*(x*b.getD k 0)+4294967296^(i+k)*r.1.getD (i+k) 0+4294967296^(i+k)*r.2:=by rw[<-hz,bn,bn]
   have e5:4294967296^(i+k)*z=4294967296^(i+k)*(z%4294967296)+4294967296^(i+k)*(4294967296*(z/4294967296)):=by rw[<-bn,<-e1]
   omega
  .show (r.1.set (i+k) _).getD j 0=_
   rw[uN ae,h5 j ae]
structure YJ(a b:List Nat)(i:Nat)(o:List Nat):Prop where
 ok:iC o
 len:o.length=a.length+b.length
 eq:val o=val (a.take i)*val b
 zero:∀ j,i+b.length<=j->o.getD j 0=0
theorem Fc{a b:List Nat}(ha:iC a)(hb:iC b):∀ i,i<=a.length->YJ a b i (lr a b i)
 | 0,_=>⟨iC.BQ _,by simp[lr],by simp[lr,y4,val],fun j _=>by
  by_cases h:j<a.length+b.length<;>simp[lr,aW,fH,h]⟩
 |i+1,hi=>by
  obtain⟨h1,h2,h3,h4⟩:=Fc ha hb i ae;obtain⟨q1,q2,q3,q4,q5⟩:=Fb (ha.getD i) hb h1 (i:=i) ae b.length (aU _);have hv:=uy a i;simp only[lr];generalize mT (a.getD i 0) i b (lr a b i) b.length=r at *
  have tV:=xz (L:=r.1) (k:=i+b.length) (x:=r.2%4294967296) ae;rw[q5 _ (aU _),h4 _ (aU _),cr,bt,bu q3,q4,fg,h3]at tV;refine⟨q1.set _ (bg _ ag),av,?_,fun j hj=>?_⟩
  .rw [bu q3,tV,hv,bK,bc]
  .rw [uN ae,q5 _ ae,h4 _ ae]
theorem alO{a b:List Nat}(ha:iC a)(hb:iC b):val (lr a b a.length)=val a*val b:=by
 have:=(Fc ha hb a.length (aU _)).eq;rwa[fg]at this
end Go.Proofs.YtdgnpeddgdclhaaGreatDoor.Fp
namespace Go.Proofs.YtdgnpeddgdclhaaGreatDoor
open Go.RowKit Fp Pu
abbrev jb(L:List Nat):Nat->Nat->E:=fun i _=>.v (.int .u32 (L.getD i 0:Int))
theorem uq(n:Nat):IntKind.u32.wrap (n:Int)=((n%4294967296:Nat):Int):=by rw[IntKind.wrap_u32];omega
theorem Mu(n:Nat)(h:n<9223372036854775808):IntKind.i64.wrap (n:Int)=(n:Int):=by rw[IntKind.wrap_i64];omega
theorem BZ(n:Nat):(n:Int)/2^32=((n/4294967296:Nat):Int):= ae 
theorem yT(n k:Nat):(n:Int)/2^k=((n/2^k:Nat):Int):=by rw[Int.natCast_ediv,Int.natCast_pow];rfl
theorem yU{L:List Nat}{n:Nat}(h:n=L.length):E.le (.sl false n 1 (jb L)) (gX L):=by subst h;exact .refl _
theorem FT{T n n':Nat}{L:List Nat}(hn:n=n')(h:∀ i,L.getD i 0=0):Bx.le (.row false T n 1 fun _ j=>[.v (.int .u32 0)].getD j .any) (.row false T n' 1 (jb L)):=
 .row hn fun i j _ hj=>by
  obtain rfl:j=0:= ae ;refine⟨.iS ?_,rfl⟩;show E.v (.int .u32 0)=E.v (.int .u32 (L.getD i 0:Int));rw[h i];rfl
theorem N5{T n n' p:Nat}{L:List Nat}{z:Nat}(hn:n=n')(hp:p<L.length):Bx.le (.row false T n 1 fun i' j'=>if i'=p/\0<=j'/\j'<0+1 then[.v (.int .u32 (z:Int))].getD (j'-0) .any else(jb L) i' j') (.row false T n' 1 (jb (L.set p z))):=
 .row hn fun i j _ hj=>by
  obtain rfl:j=0:= ae ;refine⟨.iS ?_,rfl⟩;by_cases h:i=p
  .subst h
   rw[aR ⟨rfl,ae,ae⟩];show E.v (.int .u32 (z:Int))=E.v (.int .u32 (((L.set i z).getD i 0:Nat):Int));rw[Fp.Ln hp]
  .rw [aQ (fun q=>h q.1)]
   show E.v (.int .u32 (L.getD i 0:Int))=E.v (.int .u32 (((L.set p z).getD i 0:Nat):Int));rw[Fp.uN (fun q=>h q.symm)]
open Go.RowKit Fp
theorem WJ{k l:IntKind}{a b c d:Int}(h:a=b)(h':c=d):Ending.returned (.tuple #[.int k a,.int l c]) = .returned (.tuple #[.int k b,.int l d]):=by rw[h,h']
theorem DP(x y c:Nat)(w:World)(hx:x<4294967296)(hy:y<4294967296)(hc:c<=1):
 Calls Tryz.prog 287 #[.int .u32 x,.int .u32 y,.int .u32 c] w fun e w'=>e = .returned (.tuple #[.int .u32 (((x+y+c)%4294967296:Nat):Int),.int .u32 (((x+y+c)/4294967296:Nat):Int)])/\w=w':=by
 go_enter Tryz.func287,Tryz.ntmps287;go_wp2;go_ret2;refine⟨?_,rfl⟩;exact WJ ae ae 
theorem F5(a b:Nat)(ha:a<4294967296)(hb:b<4294967296):bits .or .u32 (a:Int) (b:Int)=((a |||b:Nat):Int):=by
 have h2:a |||b<2^32:=amN ha hb
 show IntKind.u32.wrap ((BitVec.ofInt 32 (a:Int) |||BitVec.ofInt 32 (b:Int)).toNat:Int)=_;rw[BitVec.toNat_or,fh,fh];rw[show((a:Int)%((2^32:Nat):Int)).toNat=a by omega,show((b:Int)%((2^32:Nat):Int)).toNat=b by omega];rw[IntKind.wrap_u32];omega
theorem Ya(a b:Nat)(ha:a<4294967296)(hb:b<4294967296):bits .and .u32 (a:Int) (b:Int)=((a &&& b:Nat):Int):=by
 have h2:a &&& b<2^32:=fe a hb;show IntKind.u32.wrap ((BitVec.ofInt 32 (a:Int) &&& BitVec.ofInt 32 (b:Int)).toNat:Int)=_;rw[BitVec.toNat_and,fh,fh];rw[show((a:Int)%((2^32:Nat):Int)).toNat=a by omega,show((b:Int)%((2^32:Nat):Int)).toNat=b by omega];rw[IntKind.wrap_u32];omega
theorem OG(a b:Nat)(ha:a<4294967296)(hb:b<4294967296):bits .xor .u32 (a:Int) (b:Int)=((a ^^^ b:Nat):Int):=by
 have h2:a ^^^ b<2^32:=eu ha hb;show IntKind.u32.wrap ((BitVec.ofInt 32 (a:Int) ^^^ BitVec.ofInt 32 (b:Int)).toNat:Int)=_;rw[BitVec.toNat_xor,fh,fh];rw[show((a:Int)%((2^32:Nat):Int)).toNat=a by omega,show((b:Int)%((2^32:Nat):Int)).toNat=b by omega];rw[IntKind.wrap_u32];omega
theorem JM(n:Nat)(h:n<4294967296):n/2147483648=(n.testBit 31).toNat:=by
 rw[Nat.testBit_eq_decide_div_mod_eq,show(2:Nat)^31=2147483648 from rfl];have h2:n/2147483648<2:= ae ;generalize n/2147483648=q at *
 have:q=0\/q=1:= ae ;rcases this with rfl|rfl<;>rfl
theorem akK(x y c d:Nat)(hx:x<4294967296)(hy:y<4294967296)(hc:c<=1)(hd:d=(x+(4294967296-y)+(4294967296-c))%4294967296):
 (((4294967295 ^^^ x) &&& y) ||| ((4294967295 ^^^ (x ^^^ y)) &&& d))/2147483648=if x<y+c then 1 else 0:=by
 have Bd:d<4294967296:= ae ;have h1:4294967295 ^^^ x<2^32:=eu ag hx;have h2:x ^^^ y<2^32:=eu hx hy;have h3:4294967295 ^^^ (x ^^^ y)<2^32:=eu ag h2;have h4:(4294967295 ^^^ x) &&& y<2^32:=fe _ hy;have h5:(4294967295 ^^^ (x ^^^ y)) &&& d<2^32:=fe _ Bd;rw[JM _ (amN h4 h5)];have tx:=JM x hx;have ty:=JM y hy;have td:=JM d Bd;rw[Nat.testBit_or,Nat.testBit_and,Nat.testBit_and,amS,amS,amS,show(4294967295:Nat).testBit 31=true by decide];clear h1 h2 h3 h4 h5;generalize x.testBit 31=p at *
 generalize y.testBit 31=q at *
 generalize d.testBit 31=r at *
 cases p<;>cases q<;>cases r<;>simp at tx ty td ⊢ <;> omega
def AS(x y c:Nat):Nat:=if x<y+c then 1 else 0
def wL(x y c:Nat):Nat:=(x+(4294967296-y)+(4294967296-c))%4294967296
theorem D2(x y c:Nat)(hx:x<4294967296)(hy:y<4294967296)(hc:c<=1):wL x y c+y+c=x+4294967296*AS x y c/\AS x y c<=1/\wL x y c<4294967296:=by
 unfold wL AS;split<;>omega
theorem Xy(x y c:Nat)(w:World)(hx:x<4294967296)(hy:y<4294967296)(hc:c<=1):
 Calls Tryz.prog 288 #[.int .u32 x,.int .u32 y,.int .u32 c] w fun e w'=>e = .returned (.tuple #[.int .u32 (wL x y c:Nat),.int .u32 (AS x y c:Nat)])/\w=w':=by
 go_enter Tryz.func288,Tryz.ntmps288;go_wp2;go_ret2;refine⟨?_,rfl⟩;have hd:((x:Int)-(y:Int)-(c:Int))%4294967296=(wL x y c:Int):=by unfold wL;omega
 have hb:=akK x y c (wL x y c) hx hy hc rfl;have hl:=(D2 x y c hx hy hc).2.2;have em:IntKind.u32.max=((4294967295:Nat):Int):=rfl;refine WJ hd ?_;rw[hd,em,OG _ _ ag hx,OG _ _ hx hy];have h1:4294967295 ^^^ x<2^32:=eu ag hx;have h2:x ^^^ y<2^32:=eu hx hy;have h3:4294967295 ^^^ (x ^^^ y)<2^32:=eu ag h2;rw[OG _ _ ag h2,Ya _ _ h1 hy,Ya _ _ h3 hl];have h4:(4294967295 ^^^ x) &&& y<2^32:=fe _ hy;have h5:(4294967295 ^^^ (x ^^^ y)) &&& wL x y c<2^32:=fe _ hl;rw[F5 _ _ h4 h5];unfold AS;rw[<-hb];omega
open Go.RowKit Fp
theorem Pg{O:List Nat}{k c x y P Q P' Q':Nat}(ho:O[k]? = some 0)(h:val O+4294967296^k*c=P+Q)
 (hP:P'=P+4294967296^k*x) (hQ:Q'=Q+4294967296^k*y):
 val (O.set k ((x+y+c)%4294967296))+4294967296^(k+1)*((x+y+c)/4294967296)=P'+Q':=by
 have h1:=M4 (a:=1) (b:=x+y) (c:=c) ho;rw[bJ,bt]at h1;rw[h1,h,hP,hQ,bn];omega
theorem XB{O:List Nat}{k c x y d c' P Q P' Q':Nat}(ho:O[k]? = some 0)(h:val O+Q=P+4294967296^k*c)
 (hP:P'=P+4294967296^k*x) (hQ:Q'=Q+4294967296^k*y) (hd:d+y+c=x+4294967296*c'):
 val (O.set k d)+Q'=P'+4294967296^(k+1)*c':=by
 obtain⟨hk,h0⟩:=bV.1 ho;have h1:=OJ (x:=d) hk;rw[h0,cr,bt]at h1;have e:=congrArg (4294967296^k * ·) hd;simp only[bn,<-bc]at e;rw[aZ,h1,hP,hQ];omega
def tw(O:List Nat)(k:Nat):Prop:=∀ j,k<=j->j<O.length->O[j]? = some 0
theorem tw.at{O:List Nat}{k:Nat}(h:tw O k)(hk:k<O.length):O[k]? = some 0:=h k (aU _) hk
theorem tw.set{O:List Nat}{k:Nat}(h:tw O k)(v:Nat):tw (O.set k v) (k+1):=fun j h1 h2=>by
 rw[gq ae];exact h j ae (by simpa using h2)
theorem tw.OO(n:Nat):tw (List.replicate n 0) 0:=fun j _ h=>by
 rw[fH];rw[aR (by simpa using h)]
def J4(w:World)(v n:Nat)(e:Ending)(w':World):Prop:=∃ T,val T=v/\iC T/\T.length=n/\sO w T e w'
def OZ(w:World)(v n:Nat)(e:Ending)(w':World):Prop:=∃ T,val T=v/\iC T/\T.length<=n/\sO w T e w'
theorem agS(A B:Option Addr)(c d:Nat)(L M:List Nat)(w:World)(hs:Sl w A c L)(hr:Sl w B d M)(h1:L.length<=3000)(_h2:M.length<=3000)(hc:M.length<=L.length):
 Calls Tryz.prog 260 #[.slice A L.length c,.slice B M.length d] w (J4 w (val L+val M) (L.length+1)):=by
 obtain⟨l,hl⟩:∃ l,l=L.length:=⟨_,rfl⟩
 obtain⟨m,hm⟩:∃ m,m=M.length:=⟨_,rfl⟩
 rw[<-hl,<-hm]at hc;rw[<-hl]at h1;rw[<-hm]at _h2;have HL:=Lib.hid hl;have HM:=Lib.hid hm;rw[<-hl,<-hm];clear hl hm;have d0:decide ((l:Int)<(m:Int))=false:=aT ae;have d1:decide (l<m)=false:=aT ae;have oR:=C8 (l+1) ae;rw[show((l+1:Nat):Int)=(l:Int)+1 by omega]at oR;have uR:=Lib.hid (Rw.xm w (l+1));go_enter Tryz.func260,Tryz.ntmps260;go_wp2;go_loopw [6,7,8,9,23] (fun cy _ _ _ i wr=>∃ (k q:Nat) (O:List Nat),k<=l/\i = .int .i64 k/\cy = .int .u32 q/\q<=1/\O.length=l+1/\iC O/\tw O k/\val O+4294967296^k*q=val (L.take k)+val (M.take k)/\Rw wr w.heap.size O/\iy w wr) (fun _ _ _ _ i _=>l-(intOf i).toNat)
 case atStart=>
  exact⟨0,0,List.replicate (l+1) 0,bL _,rfl,rfl,ag,aj,iC.BQ _,tw.OO _,by simp[y4],uR.out,iy.alloc _ _⟩
 case round=>
  obtain⟨k,q,O,hk,rfl,rfl,hq,hO,kV,hz,kW,hR,hb⟩:=hrel;have HV:=Lib.hid kW;have HO:=Lib.hid hO;clear kW hO;have HZ:=Lib.hid hz;clear hz;by_cases iD:k<l
  .have sZ:k<L.length:=by have:=HL.out;omega
   obtain⟨ab,ao,e1,_,c1⟩:=(hs.below hb).ln sZ;have my:L[k]<4294967296:=hs.ok.get sZ;have ho:=HZ.out.at (by have:=HO.out;omega)
   have c4:=hR.frozen k;have Ia:=hR.cell ho;have HT:=Lib.hid (xA L k sZ);have HY:=Lib.hid (uy M k);have pq:M.getD k 0<4294967296:=hr.ok.getD k;have HYc:=Lib.hid (fun(h:k<M.length)=>(hr.below hb).ln h);have HYg:=Lib.hid (fun(h:k<M.length)=>zE h);have HYn:=Lib.hid (fun(h:¬k<M.length)=>Cy h);have HX:=Lib.hid (rfl:L[k]=L[k]);obtain⟨a,ha⟩:∃ a,a=L[k]:=⟨_,rfl⟩
   rw[<-ha]at c1 my HT;clear ha HX sZ;have HS:=Lib.hid (Pg ho HV.out HT.out HY.out);have HN:=Lib.hid (fun v=>HZ.out.set v);have HOK:=Lib.hid (fun v=>kV.Jz k v);have HR2:=Lib.hid (fun v:Nat=>hR.set k v);have HE2:=Lib.hid (fun v:Value=>hb.setCell (p:=⟨w.heap.size,k,none⟩) (aU _) v);clear ho hR hb kV;subst e1;by_cases TB:k<m
   .have vW:k<M.length:=by have:=HM.out;omega
    obtain⟨bb,bo,e2,_,c2⟩:=HYc.out vW;subst e2;rw[<-HYg.out vW]at c2;generalize M.getD k 0=b at *
    clear HYc HYg HYn vW;have HA:=Lib.hid (fun w=>DP a b q w my pq hq);go_wp2_with fail;refine(HA.out _).mono ?_;rintro e w1 ⟨rfl,rfl⟩;go_wp2;go_roundw
    case rel=>
     exact⟨k+1,(a+b+q)/4294967296,O.set k ((a+b+q)%4294967296),ae,by go_num,rfl,ae,by rw[cv];exact HO.out,HOK.out _,HN.out _,HS.out,HR2.out _,HE2.out _⟩
    case measure=>simp[intOf];omega
   .rw [HYn.out (by have:=HM.out;omega)]at HS
    clear HYc HYg HYn pq HY;have HA:=Lib.hid (fun w=>DP a 0 q w my ag hq);go_wp2_with fail;refine(HA.out _).mono ?_;rintro e w1 ⟨rfl,rfl⟩;go_wp2;go_roundw
    case rel=>
     exact⟨k+1,(a+0+q)/4294967296,O.set k ((a+0+q)%4294967296),ae,by go_num,rfl,ae,by rw[cv];exact HO.out,HOK.out _,HN.out _,HS.out,HR2.out _,HE2.out _⟩
    case measure=>simp[intOf];omega
  .obtain rfl:k=l:= ae 
   have ho:=HZ.out.at (by have:=HO.out;omega)
   have c4:=hR.frozen k;have Ia:=hR.cell ho;have HF:=Lib.hid (show val (O.set k q)=val L+val M by
    have h:=KB (c:=q) ho;rw[bX,bu ae,bT ae,cr,bt,HV.out,show L.take k=L from ck (by rw[HL.out];exact aU _),show M.take k=M from ck (by rw[<-HM.out];omega)]at h;omega)
   have HLn:=Lib.hid (show(O.set k q).length=k+1 by rw[cv];exact HO.out);have HOK:Hid (iC (O.set k q)):=kV.set k ae;have HR2:=Lib.hid (hR.set k q);have HE2:=Lib.hid (fun v:Value=>hb.setCell (p:=⟨w.heap.size,k,none⟩) (aU _) v);clear ho hR hb kV;go_wp2;go_ret;have s8:=HR2.out.sl HOK.out (by rw[HLn.out];omega);rw[HLn.out]at s8;exact⟨_,HF.out,HOK.out,HLn.out,_,_,(by rw[HLn.out];rfl),s8,HE2.out _⟩
theorem agT(A B:Option Addr)(c d:Nat)(L M:List Nat)(w:World)(hs:Sl w A c L)(hr:Sl w B d M)(h1:L.length<=3000)(h2:M.length<=3000)(hc:L.length<M.length):
 Calls Tryz.prog 260 #[.slice A L.length c,.slice B M.length d] w (J4 w (val L+val M) (M.length+1)):=by
 obtain⟨l,hl⟩:∃ l,l=L.length:=⟨_,rfl⟩
 obtain⟨m,hm⟩:∃ m,m=M.length:=⟨_,rfl⟩
 rw[<-hl,<-hm]at hc;rw[<-hl]at h1;rw[<-hm]at h2;have HL:=Lib.hid hl;have HM:=Lib.hid hm;rw[<-hl,<-hm];clear hl hm;have d0:decide ((l:Int)<(m:Int))=true:=aS ae;have d1:decide (l<m)=true:=aS ae;have oR:=C8 (m+1) ae;rw[show((m+1:Nat):Int)=(m:Int)+1 by omega]at oR;have uR:=Lib.hid (Rw.xm w (m+1));go_enter Tryz.func260,Tryz.ntmps260;go_wp2;go_loopw [6,7,8,9,23] (fun cy _ _ _ i wr=>∃ (k q:Nat) (O:List Nat),k<=m/\i = .int .i64 k/\cy = .int .u32 q/\q<=1/\O.length=m+1/\iC O/\tw O k/\val O+4294967296^k*q=val (M.take k)+val (L.take k)/\Rw wr w.heap.size O/\iy w wr) (fun _ _ _ _ i _=>m-(intOf i).toNat)
 case atStart=>
  exact⟨0,0,List.replicate (m+1) 0,bL _,rfl,rfl,ag,aj,iC.BQ _,tw.OO _,by simp[y4],uR.out,iy.alloc _ _⟩
 case round=>
  obtain⟨k,q,O,hk,rfl,rfl,hq,hO,kV,hz,kW,hR,hb⟩:=hrel;have HV:=Lib.hid kW;have HO:=Lib.hid hO;clear kW hO;have HZ:=Lib.hid hz;clear hz;by_cases iD:k<m
  .have sZ:k<M.length:=by have:=HM.out;omega
   obtain⟨ab,ao,e1,_,c1⟩:=(hr.below hb).ln sZ;have my:M[k]<4294967296:=hr.ok.get sZ;have ho:=HZ.out.at (by have:=HO.out;omega)
   have c4:=hR.frozen k;have Ia:=hR.cell ho;have HT:=Lib.hid (xA M k sZ);have HY:=Lib.hid (uy L k);have pq:L.getD k 0<4294967296:=hs.ok.getD k;have HYc:=Lib.hid (fun(h:k<L.length)=>(hs.below hb).ln h);have HYg:=Lib.hid (fun(h:k<L.length)=>zE h);have HYn:=Lib.hid (fun(h:¬k<L.length)=>Cy h);have HX:=Lib.hid (rfl:M[k]=M[k]);obtain⟨a,ha⟩:∃ a,a=M[k]:=⟨_,rfl⟩
   rw[<-ha]at c1 my HT;clear ha HX sZ;have HS:=Lib.hid (Pg ho HV.out HT.out HY.out);have HN:=Lib.hid (fun v=>HZ.out.set v);have HOK:=Lib.hid (fun v=>kV.Jz k v);have HR2:=Lib.hid (fun v:Nat=>hR.set k v);have HE2:=Lib.hid (fun v:Value=>hb.setCell (p:=⟨w.heap.size,k,none⟩) (aU _) v);clear ho hR hb kV;subst e1;by_cases TB:k<l
   .have vW:k<L.length:=by have:=HL.out;omega
    obtain⟨bb,bo,e2,_,c2⟩:=HYc.out vW;subst e2;rw[<-HYg.out vW]at c2;generalize L.getD k 0=b at *
    clear HYc HYg HYn vW;have HA:=Lib.hid (fun w=>DP a b q w my pq hq);go_wp2_with fail;refine(HA.out _).mono ?_;rintro e w1 ⟨rfl,rfl⟩;go_wp2;go_roundw
    case rel=>
     exact⟨k+1,(a+b+q)/4294967296,O.set k ((a+b+q)%4294967296),ae,by go_num,rfl,ae,by rw[cv];exact HO.out,HOK.out _,HN.out _,HS.out,HR2.out _,HE2.out _⟩
    case measure=>simp[intOf];omega
   .rw [HYn.out (by have:=HL.out;omega)]at HS
    clear HYc HYg HYn pq HY;have HA:=Lib.hid (fun w=>DP a 0 q w my ag hq);go_wp2_with fail;refine(HA.out _).mono ?_;rintro e w1 ⟨rfl,rfl⟩;go_wp2;go_roundw
    case rel=>
     exact⟨k+1,(a+0+q)/4294967296,O.set k ((a+0+q)%4294967296),ae,by go_num,rfl,ae,by rw[cv];exact HO.out,HOK.out _,HN.out _,HS.out,HR2.out _,HE2.out _⟩
    case measure=>simp[intOf];omega
  .obtain rfl:k=m:= ae 
   have ho:=HZ.out.at (by have:=HO.out;omega)
   have c4:=hR.frozen k;have Ia:=hR.cell ho;have HF:=Lib.hid (show val (O.set k q)=val L+val M by
    have h:=KB (c:=q) ho;rw[bX,bu ae,bT ae,cr,bt,HV.out,show M.take k=M from ck (by rw[HM.out];exact aU _),show L.take k=L from ck (by rw[<-HL.out];omega)]at h;omega)
   have HLn:=Lib.hid (show(O.set k q).length=k+1 by rw[cv];exact HO.out);have HOK:Hid (iC (O.set k q)):=kV.set k ae;have HR2:=Lib.hid (hR.set k q);have HE2:=Lib.hid (fun v:Value=>hb.setCell (p:=⟨w.heap.size,k,none⟩) (aU _) v);clear ho hR hb kV;go_wp2;go_ret;have s8:=HR2.out.sl HOK.out (by rw[HLn.out];omega);rw[HLn.out]at s8;exact⟨_,HF.out,HOK.out,HLn.out,_,_,(by rw[HLn.out];rfl),s8,HE2.out _⟩
theorem U5(A B:Option Addr)(c d:Nat)(L M:List Nat)(w:World)(hs:Sl w A c L)(hr:Sl w B d M)(h1:L.length<=3000)(h2:M.length<=3000):
 Calls Tryz.prog 260 #[.slice A L.length c,.slice B M.length d] w (J4 w (val L+val M) (max L.length M.length+1)):=by
 by_cases hc:M.length<=L.length
 .rw [Nat.max_eq_left hc];exact agS A B c d L M w hs hr h1 h2 hc
 .rw [Nat.max_eq_right ae];exact agT A B c d L M w hs hr h1 h2 ae 
theorem agR(A B:Option Addr)(c d:Nat)(L M:List Nat)(w:World)(hs:Sl w A c L)(hr:Sl w B d M)(h1:L.length<=3000)(h2:M.length<=3000):
 Calls Tryz.prog 260 #[.slice A L.length c,.slice B M.length d] w (OZ w (val L+val M) (max L.length M.length+1)):=
 (U5 A B c d L M w hs hr h1 h2).mono fun _ _ ⟨T,a,b,c,d⟩=>⟨T,a,b,fJ c,d⟩
theorem agU(A B:Option Addr)(c d:Nat)(L M:List Nat)(w:World)(tS:Sl w A c L)(wa:Sl w B d M)(h1:L.length<=3000)(_h2:M.length<=3000)(hle:val M<=val L):
 Calls Tryz.prog 261 #[.slice A L.length c,.slice B M.length d] w (OZ w (val L-val M) L.length):=by
 have Lz:=Lib.hid (fun w (h:Sl w A c L)=>ud A c L w h);have LA:=Lib.hid (fun w (h:Sl w B d M)=>ud B d M w h);have hs:=tS.tk;have hr:=wa.tk;have EL:=oo L;have Ts:=oo M;have w9:=oG L;have ns:=oG M;have CM:(ij M).length<=(ij L).length:=by
  apply bE;intro h;have:=JT hs.ok (yX M) ae;omega
 unfold lQ at w9 ns;rw[<-EL,<-Ts]at hle ⊢;clear EL Ts;obtain⟨n1,rD⟩:∃ n,n=L.length:=⟨_,rfl⟩
 obtain⟨n2,j9⟩:∃ n,n=M.length:=⟨_,rfl⟩
 rw[<-rD]at h1 w9 Lz ⊢;rw[<-j9]at _h2 ns LA ⊢;have HTL:=Lib.hid (Lz.out w tS);have HTM:=Lib.hid (LA.out w wa);clear Lz LA tS wa rD j9;generalize ij L=L at *
 generalize ij M=M at *
 obtain⟨l,hl⟩:∃ l,l=L.length:=⟨_,rfl⟩
 obtain⟨m,hm⟩:∃ m,m=M.length:=⟨_,rfl⟩
 rw[<-hl]at w9 HTL CM;rw[<-hm]at ns HTM CM;have HL:=Lib.hid hl;have HM:=Lib.hid hm;have HLE:=Lib.hid hle;clear hl hm hle;have oR:=C8 l ae;have uR:=Lib.hid (Rw.xm w l);go_enter Tryz.func261,Tryz.ntmps261;go_wp2_with fail;refine HTL.out.mono ?_;rintro e w1 ⟨rfl,rfl⟩;go_wp2_with fail;refine HTM.out.mono ?_;rintro e w1 ⟨rfl,rfl⟩;go_wp2;go_loopw [6,7,8,9,19] (fun cy _ _ _ i wr=>∃ (k q:Nat) (O:List Nat),k<=l/\i = .int .i64 k/\cy = .int .u32 q/\q<=1/\O.length=l/\iC O/\tw O k/\val O+val (M.take k)=val (L.take k)+4294967296^k*q/\Rw wr w.heap.size O/\iy w wr) (fun _ _ _ _ i _=>l-(intOf i).toNat)
 case atStart=>
  exact⟨0,0,List.replicate l 0,bL _,rfl,rfl,ag,aj,iC.BQ _,tw.OO _,by simp[y4],uR.out,iy.alloc _ _⟩
 case round=>
  obtain⟨k,q,O,hk,rfl,rfl,hq,hO,kV,hz,kW,hR,hb⟩:=hrel;have HV:=Lib.hid kW;have HO:=Lib.hid hO;clear kW hO;have HZ:=Lib.hid hz;clear hz;by_cases iD:k<l
  .have sZ:k<L.length:=by have:=HL.out;omega
   obtain⟨ab,ao,e1,_,c1⟩:=(hs.below hb).ln sZ;have my:L[k]<4294967296:=hs.ok.get sZ;have ho:=HZ.out.at (by have:=HO.out;omega)
   have c4:=hR.frozen k;have Ia:=hR.cell ho;have HT:=Lib.hid (xA L k sZ);have HY:=Lib.hid (uy M k);have pq:M.getD k 0<4294967296:=hr.ok.getD k;have HYc:=Lib.hid (fun(h:k<M.length)=>(hr.below hb).ln h);have HYg:=Lib.hid (fun(h:k<M.length)=>zE h);have HYn:=Lib.hid (fun(h:¬k<M.length)=>Cy h);obtain⟨a,ha⟩:∃ a,a=L[k]:=⟨_,rfl⟩
   rw[<-ha]at c1 my HT;clear ha sZ;have HN:=Lib.hid (fun v=>HZ.out.set v);have HOK:=Lib.hid (fun(v:Nat) (h:v<4294967296)=>kV.set k h);have HR2:=Lib.hid (fun v:Nat=>hR.set k v);have HE2:=Lib.hid (fun v:Value=>hb.setCell (p:=⟨w.heap.size,k,none⟩) (aU _) v);have HO0:=Lib.hid ho;clear ho hR hb kV;subst e1;by_cases TB:k<m
   .have vW:k<M.length:=by have:=HM.out;omega
    obtain⟨bb,bo,e2,_,c2⟩:=HYc.out vW;subst e2;rw[<-HYg.out vW]at c2;generalize M.getD k 0=b at *
    clear HYc HYg HYn vW;have HS:=Lib.hid (XB HO0.out HV.out HT.out HY.out (D2 a b q my pq hq).1);have HD:=Lib.hid (D2 a b q my pq hq).2;have HA:=Lib.hid (fun w=>Xy a b q w my pq hq);generalize wL a b q=dd at *
    generalize AS a b q=bb' at *
    go_wp2_with fail;refine(HA.out _).mono ?_;rintro e w1 ⟨rfl,rfl⟩;go_wp2;go_roundw
    case rel=>
     exact⟨k+1,bb',O.set k dd,ae,by go_num,rfl,HD.out.1,by rw[cv];exact HO.out,HOK.out _ HD.out.2,HN.out _,HS.out,HR2.out _,HE2.out _⟩
    case measure=>simp[intOf];omega
   .rw [HYn.out (by have:=HM.out;omega)]at HY
    clear HYc HYg HYn pq;have HS:=Lib.hid (XB HO0.out HV.out HT.out HY.out (D2 a 0 q my ag hq).1);have HD:=Lib.hid (D2 a 0 q my ag hq).2;have HA:=Lib.hid (fun w=>Xy a 0 q w my ag hq);generalize wL a 0 q=dd at *
    generalize AS a 0 q=bb' at *
    go_wp2_with fail;refine(HA.out _).mono ?_;rintro e w1 ⟨rfl,rfl⟩;go_wp2;go_roundw
    case rel=>
     exact⟨k+1,bb',O.set k dd,ae,by go_num,rfl,HD.out.1,by rw[cv];exact HO.out,HOK.out _ HD.out.2,HN.out _,HS.out,HR2.out _,HE2.out _⟩
    case measure=>simp[intOf];omega
  .obtain rfl:k=l:= ae 
   have HF:=Lib.hid (show val O=val L-val M by
    have h:=HV.out;rw[show L.take k=L from ck (by rw[HL.out];exact aU _),show M.take k=M from ck (by rw[<-HM.out];exact CM)]at h;exact(XA kV HO.out h HLE.out).2)
   go_wp2;go_ret;have s8:=hR.sl kV (by rw[HO.out];omega);exact⟨_,HF.out,kV,by rw[HO.out];exact w9,_,_,(by rw[HO.out];rfl),s8,hb⟩
open Go.RowKit Fp
theorem X2{T:List Nat}{v:Nat}(h:iC T)(hv:val T=v):ij T=gU v:=by rw[qo h,hv]
theorem US(A B:Option Addr)(c d:Nat)(L M:List Nat)(w:World)(hs:Sl w A c L)(hr:Sl w B d M)(h1:L.length<=256)(h2:M.length<=256)(hf:(gU (val L+val M)).length<=256):
 Calls Tryz.prog 218 #[.slice A L.length c,.slice B M.length d] w (B7 w (gU (val L+val M)) 0):=by
 have H1:=Lib.hid (fun w (h:Sl w A c L) (k:Sl w B d M)=>agR A B c d L M w h k ae ae);generalize val L+val M=v at *
 go_enter Tryz.func218,Tryz.ntmps218;go_wp2_with fail;refine(Uo _ A B _ c _ d _ false (O4 _ _ _ _ _ _ _) (O5 _ _ _ _ _ _ _) av).mono ?_;rintro e w' ⟨rfl,rfl⟩;go_wp2_with fail;refine(H1.out _ (hs.alloc _) (hr.alloc _)).mono ?_;rintro e w' ⟨T,hv,hk,hl,A',c',rfl,mJ,hb⟩;have ht:=Lib.hid (X2 hk hv);go_wp2_with fail;refine(Fg A' c' T _ mJ (by rw[ht.out];exact hf)).mono ?_;rintro e w'' ⟨A'',c'',rfl,qA,mo⟩;rw[ht.out]at qA ⊢;go_wp2;go_ret2;exact⟨A'',c'',rfl,qA,(iy.alloc _ _).trans (hb.trans mo)⟩
theorem Na(A B:Option Addr)(c d:Nat)(L M:List Nat)(w:World)(hs:Sl w A c L)(hr:Sl w B d M)(h1:L.length<=256)(h2:M.length<=256)(hle:val M<=val L):
 Calls Tryz.prog 219 #[.slice A L.length c,.slice B M.length d] w (B7 w (gU (val L-val M)) 0):=by
 have H1:=Lib.hid (fun w (h:Sl w A c L) (k:Sl w B d M)=>agU A B c d L M w h k ae ae hle);have HC:=Lib.hid (fun w (h:Sl w A c L) (k:Sl w B d M)=>Ff A B c d L M w h k ae ae);have hc:decide (jY (val L) (val M)<0)=false:=by
  apply aT;unfold jY;rw[aQ ae];split<;>decide
 have hf:(gU (val L-val M)).length<=256:=aX (lW (dj _ _)) (MV hs.ok h1);generalize val L-val M=v at *
 generalize jY (val L) (val M)=q at *
 clear hle;go_enter Tryz.func219,Tryz.ntmps219;go_wp2_with fail;refine(Uo _ A B _ c _ d _ false (O4 _ _ _ _ _ _ _) (O5 _ _ _ _ _ _ _) av).mono ?_;rintro e w' ⟨rfl,rfl⟩;go_wp2_with fail;refine(HC.out _ (hs.alloc _) (hr.alloc _)).mono ?_;rintro e w1 ⟨rfl,iZ⟩;go_wp2_with fail;refine(H1.out _ ((hs.alloc _).below iZ) ((hr.alloc _).below iZ)).mono ?_;rintro e w' ⟨T,hv,hk,hl,A',c',rfl,mJ,hb⟩;have ht:=Lib.hid (X2 hk hv);go_wp2_with fail;refine(Fg A' c' T _ mJ (by rw[ht.out];exact hf)).mono ?_;rintro e w'' ⟨A'',c'',rfl,qA,mo⟩;rw[ht.out]at qA ⊢;go_wp2;go_ret2;exact⟨A'',c'',rfl,qA,(iy.alloc _ _).trans (iZ.trans (hb.trans mo))⟩
end Go.Proofs.YtdgnpeddgdclhaaGreatDoor
namespace Go.Proofs.YtdgnpeddgdclhaaGreatDoor.Fp
def kC(d:Dy):Dy:=if mP d then d else jx
def mI(d:Dy):Int:=if mP d then 0 else 9
theorem AV{d:Dy}(h:mP d):kC d=d:=aR h
theorem GS{d:Dy}(h:mP d):mI d=0:=aR h
theorem KD{d:Dy}(h:¬mP d):kC d=jx:=aQ h
theorem GR{d:Dy}(h:¬mP d):mI d=9:=aQ h
theorem Qq{d:Dy}(h:d.lG):(kC d).ib:=by
 by_cases hr:mP d
 .rw [AV hr];exact⟨h,hr⟩
 .rw [KD hr];exact rm
theorem Ou{a b:Dy}(ha:a.m≠0)(hb:b.m≠0):iI a b=iI b a:=by
 unfold iI;rw[aQ ha,aQ hb,aQ hb,aQ ha,Int.min_comm,Int.add_comm]
theorem XH{a b:Dy}(ha:a.ib)(hb:b.ib)(a0:a.m≠0)(b0:b.m≠0){k:Int}(hk:min a.e b.e=k)(h1:4097<a.iu-k)(h2:1<a.iu-b.iu):¬mP (iI a b):=by
 have SX:k<=a.e:= ae ;have SY:k<=b.e:= ae ;have m1:=GK a0 SX;have m2:=GK b0 SY;have ta:a.iu=ia a.m+a.e:=by unfold Dy.iu;rw[aQ a0]
 have tb:b.iu=ia b.m+b.e:=by unfold Dy.iu;rw[aQ b0]
 have ba:ia a.m<=4096:=by rcases ha.range with h|⟨h,_⟩;exact absurd h a0;exact h
 have ks:a.e≠k:= ae ;have H8:b.e=k:= ae ;have oa:a.jQ k%2=0:=by
  unfold Dy.jQ;obtain⟨j,hj⟩:∃ j,(a.e-k).toNat=j+1:=⟨(a.e-k).toNat-1,ae⟩
  rw[hj,aZ,<-bc,eF]
 have ob:b.jQ k%2=1:=by
  unfold Dy.jQ;rw[H8,show(k-k).toNat=0 by omega,bN,bO];rcases hb.canon with⟨h,_,_⟩|h
  .exact absurd h b0
  .exact h
 have pa:=u6 a0 k;obtain⟨p,hp⟩:∃ p,ia (a.jQ k)=p+2:=⟨ia (a.jQ k)-2,ae⟩
 have l1:=rj (show a.jQ k≠0 by omega);have l2:=oM (b.jQ k);rw[hp,show p+2-1=p+1 by omega,aZ]at l1;have l3:2^ia (b.jQ k)<=2^p:=bh ag ae;have hz:(a.num k+b.num k).natAbs%2=1/\2^p<=(a.num k+b.num k).natAbs:=by
  unfold Dy.num;generalize a.jQ k=x at *
  generalize b.jQ k=y at *
  generalize 2^p=P at *
  split<;>split<;>omega
 unfold iI;rw[aQ a0,aQ b0,hk];unfold kT;generalize (a.num k+b.num k).natAbs=z at *
 generalize decide (a.num k+b.num k<0)=s at *
 have hc:canon s z k=⟨s,z,k⟩:=Dy.lG.Cf (d:=⟨s,z,k⟩) (.inr hz.1);rw[hc];have hb:=r7.2 hz.2;rintro(h|⟨h,_⟩)
 .simp only at h;omega
 .simp only at h;omega
theorem akO{a b:Dy}(ha:a.ib)(hb:b.ib)(a0:a.m≠0)(b0:b.m≠0){k:Int}(hk:min a.e b.e=k)(h1:4097<max a.iu b.iu-k)(h2:1<a.iu-b.iu\/1<b.iu-a.iu):¬mP (iI a b):=by
 rcases h2 with h2|h2
 .exact XH ha hb a0 b0 hk ae h2
 .rw [Ou a0 b0]
  exact XH (k:=k) hb ha b0 a0 (by rw[Int.min_comm];exact hk) ae h2
theorem akQ{a b:Dy}(ha:a.ib)(hb:b.ib)(a0:a.m≠0)(b0:b.m≠0){k:Int}(hk:min a.e b.e=k)(h:¬(4097<max a.iu b.iu-k/\(1<a.iu-b.iu\/1<b.iu-a.iu))):
 ia (a.m*2^(a.e-k).toNat)<=4097/\ia (b.m*2^(b.e-k).toNat)<=4097:=by
 have ta:a.iu=ia a.m+a.e:=by unfold Dy.iu;rw[aQ a0]
 have tb:b.iu=ia b.m+b.e:=by unfold Dy.iu;rw[aQ b0]
 have ba:ia a.m<=4096:=by rcases ha.range with h|⟨h,_⟩;exact absurd h a0;exact h
 have bb:ia b.m<=4096:=by rcases hb.range with h|⟨h,_⟩;exact absurd h b0;exact h
 rw[qf a0,qf b0];omega
theorem ZX{x y n:Nat}(hx:ia x<=n)(hy:ia y<=n):ia (x+y)<=n+1:=by
 rw[kN]at *
 rw[aZ];omega
def ja(m:Nat)(e:Int)(p:Nat):Nat:=(max (max ((ia m:Int)-p) (-16384-e)) 0).toNat
def kD(m:Nat)(e:Int)(more:Bool)(p:Nat)(out:Bool):Nat:=
 m/2^ja m e p+if out=true/\(more=true\/m%2^ja m e p≠0)then 1 else 0
def lN(m:Nat)(e:Int)(more:Bool)(p:Nat)(out:Bool):Bool:=
 decide (kD m e more p out≠0)&&decide (16384<(ia (kD m e more p out):Int)+e+ja m e p)
def jP(neg:Bool)(m:Nat)(e:Int)(more:Bool)(p:Nat)(up:Bool):Dy:=
 if lN m e more p (neg != up)=true then(if(neg != up)=true then jx else canon neg (2^p-1) (16384-p))else canon neg (kD m e more p (neg != up)) (e+ja m e p)
def jG(neg:Bool)(m:Nat)(e:Int)(more:Bool)(p:Nat)(up:Bool):Int:=
 if(lN m e more p (neg != up)&&(neg != up))=true then 9 else 0
theorem abx{N d k:Nat}:(N/2^d%2^k≠0\/N%2^d≠0)↔N%2^(d+k)≠0:=by
 have e1:N%2^(d+k)=N%2^d+2^d*(N/2^d%2^k):=by rw[aV,fK]
 have hp:0<2^d:=aY ag;rw[e1];constructor
 .rintro (h|h)
  .have:=eC hp (dB h)
   omega
  .omega
 .intro h
  by_cases h1:N%2^d=0
  .left
   intro h2;rw[h1,h2,cr]at h;exact h rfl
  .exact .inr h1
theorem abl{N:Nat}{E:Int}{more:Bool}{d p:Nat}(hb:p<ia (N/2^d)):
 ja (N/2^d) (E+d) p+d=ja N E p /\
 ∀ out,kD (N/2^d) (E+d) (more||decide (N%2^d≠0)) p out=kD N E more p out:=by
 have hN:d<ia N:=by
  apply bE;intro h;have h1:N<2^d:=kN.1 ae;rw[bT h1]at hb;simp[ia]at hb
 have Ba:ia (N/2^d)+d=ia N:=by
  have h0:N/2^d≠0:=by intro h;rw[h]at hb;simp[ia]at hb
  have h1:=rj h0;have h2:=oM (N/2^d);obtain⟨j,hj⟩:∃ j,ia (N/2^d)=j+1:=⟨ia (N/2^d)-1,ae⟩
  rw[hj]at h1 h2 ⊢;rw[dE,cL (aY ag),<-aV]at h1;rw[bR (aY ag),<-aV]at h2;have:=uD (k:=j+d) h1 (by rw[show j+d+1=j+1+d by omega];exact h2);omega
 have hk:ja (N/2^d) (E+d) p+d=ja N E p:=by
  unfold ja;omega
 refine⟨hk,fun out=>?_⟩;unfold kD;rw[<-hk];generalize ja (N/2^d) (E+d) p=k;have LS:=@abx N d k;rw[show k+d=d+k by omega,cz,<-aV];congr 1;have:((more||decide (N%2^d≠0))=true\/N/2^d%2^k≠0)↔(more=true\/N%2^(d+k)≠0):=by
  rw[<-LS];simp only[fF,bW];constructor
  .rintro ((h|h)|h)
   .exact .inl h
   .exact .inr (.inr h)
   .exact .inr (.inl h)
  .rintro (h|h|h)
   .exact .inl (.inl h)
   .exact .inr h
   .exact .inl (.inr h)
 by_cases ho:out=true
 .simp only[ho,true_and,this]
 .rw [aQ (fun h=>ho h.1),aQ (fun h=>ho h.1)]
theorem GV{N:Nat}{E:Int}{more:Bool}{d p:Nat}(neg up:Bool)(hb:p<ia (N/2^d)):
 jP neg (N/2^d) (E+d) (more||decide (N%2^d≠0)) p up=jP neg N E more p up /\
 jG neg (N/2^d) (E+d) (more||decide (N%2^d≠0)) p up=jG neg N E more p up:=by
 obtain⟨hk,hq⟩:=abl (more:=more) (E:=E) hb;have hq:=hq (neg != up);have e1:E+(d:Int)+(ja (N/2^d) (E+d) p:Int)=E+(ja N E p:Int):= ae ;have e2:(ia (kD N E more p (neg != up)):Int)+(E+(d:Int))+(ja (N/2^d) (E+d) p:Int)=(ia (kD N E more p (neg != up)):Int)+E+(ja N E p:Int):= ae ;have ho:lN (N/2^d) (E+d) (more||decide (N%2^d≠0)) p (neg != up)=lN N E more p (neg != up):=by
  unfold lN;rw[hq,e2]
 unfold jP jG;rw[hq,ho,e1];exact⟨rfl,rfl⟩
theorem KA(s:Bool)(m:Nat)(e:Int)(j:Nat):canon s (m*2^j) (e-j)=canon s m e:=by
 by_cases h0:m=0
 .subst h0;rw[ch];rfl
 .have h1:m*2^j≠0:=dr h0 (dF (aY ag))
  obtain⟨q,hq,he⟩:=AW h0;have hc:jO (m*2^j)=jO m+j:=by
   conv=>lhs;rw[he,bc,<-aV]
   exact xP hq _
  unfold canon;rw[aQ h1,aQ h0,hc,aV,a7 (2^jO m),<-cz,dt _ (aY ag)];rw[show e-(j:Int)+((jO m+j:Nat):Int)=e+(jO m:Int)by omega]
theorem abk(neg up:Bool)(N:Nat)(E:Int)(j p:Nat)(h0:N≠0):
 jP neg (N*2^j) (E-j) false p up=jP neg N E false p up/\jG neg (N*2^j) (E-j) false p up=jG neg N E false p up:=by
 have Ba:=qf h0 j;by_cases hk:ja N E p=0
 .
  have sD:ja (N*2^j) (E-j) p<=j:=by unfold ja at hk ⊢;rw[Ba];omega
  obtain⟨i,hi⟩:∃ i,j=i+ja (N*2^j) (E-j) p:=⟨j-ja (N*2^j) (E-j) p,ae⟩
  generalize hK:ja (N*2^j) (E-j) p=k at *
  have hdiv:N*2^j/2^k=N*2^i:=by
   rw[hi,aV,<-bc,dt _ (aY ag)]
  have Mc:N*2^j%2^k=0:=by
   rw[hi,aV,<-bc];exact eF _ _
  have hq:∀ out,kD (N*2^j) (E-j) false p out=N*2^i:=fun out=>by
   unfold kD;rw[hK,hdiv,Mc];simp
  have tR:∀ out,kD N E false p out=N:=fun out=>by
   unfold kD;rw[hk];simp[cH]
  have ks:N*2^i≠0:=dr h0 (dF (aY ag));have ho:∀ out,lN (N*2^j) (E-j) false p out=lN N E false p out:=fun out=>by
   unfold lN;rw[hq,tR,hK,hk,qf h0 i];simp only[cV,ks,h0,ep,fI,ev];rw[amQ];omega
  unfold jP jG;rw[ho,hq,tR,hK,hk];rw[show E-(j:Int)+(k:Int)=E+((0:Nat):Int)-(i:Int)by omega,KA];exact⟨rfl,rfl⟩
 .have sD:ja (N*2^j) (E-j) p=ja N E p+j:=by unfold ja at hk ⊢;rw[Ba];omega
  have hq:∀ out,kD (N*2^j) (E-j) false p out=kD N E false p out:=fun out=>by
   unfold kD;rw[sD,aV,a7 (2^ja N E p),<-cz,dt _ (aY ag),a7 N,gr];have:(2^j*(N%2^ja N E p)≠0)↔(N%2^ja N E p≠0):=by
    rw[cV,cV,amT];have:=aY (n:=j) (ag:0<2);omega
   simp only[this]
  have ho:∀ out,lN (N*2^j) (E-j) false p out=lN N E false p out:=fun out=>by
   unfold lN;rw[hq,sD];congr 2;rw[eq_iff_iff];omega
  unfold jP jG;rw[ho,hq,sD];rw[show E-(j:Int)+((ja N E p+j:Nat):Int)=E+(ja N E p:Int)by omega];exact⟨rfl,rfl⟩
def jh(d:Dy)(p:Nat)(up:Bool):Dy:=jP d.neg d.m d.e false p up
def jz(d:Dy)(p:Nat)(up:Bool):Int:=jG d.neg d.m d.e false p up
theorem WK(s up:Bool)(m:Nat)(e:Int)(p:Nat)(h0:m≠0):
 jh (canon s m e) p up=jP s m e false p up/\jz (canon s m e) p up=jG s m e false p up:=by
 have hm:=D4 h0;have hq:m/2^jO m≠0:=by have:=Dc h0;omega
 have h:=abk s up (m/2^jO m) (e+jO m) (jO m) p hq;rw[hm,show e+(jO m:Int)-(jO m:Int)=e by omega]at h;unfold jh jz canon;rw[aQ h0];exact⟨h.1.symm,h.2.symm⟩
theorem AT{s:Bool}{m:Nat}{e:Int}(h0:m≠0):(ia (canon s m e).m:Int)+(canon s m e).e=ia m+e/\e<=(canon s m e).e/\(canon s m e).m≠0/\ia (canon s m e).m<=ia m:=by
 have hm:=D4 h0;have hq:m/2^jO m≠0:=by have:=Dc h0;omega
 have h:=qf hq (jO m);rw[hm]at h;unfold canon;rw[aQ h0];simp only;exact⟨ae,ae,hq,ae⟩
theorem QU(m:Nat)(e:Int)(p:Nat):m/2^ja m e p<2^p:=by
 rw[bR (aY ag),<-aV];refine kN.1 ?_;unfold ja;omega
theorem aaS{s:Bool}{q p:Nat}{e:Int}(h:q<=2^p)(hp:1<=p):ia (canon s q e).m<=p:=by
 by_cases h0:q=0
 .subst h0;exact bL _
 .by_cases h1:q=2^p
  .have hc:jO q=p:=by rw[h1];have:=xP (m:=1) rfl p;rwa[bJ]at this
   unfold canon;rw[aQ h0,hc,h1,Nat.div_self (aY ag)];exact aX (kN.2 (show 1<2^1 by decide)) hp
  .exact aX (AT h0).2.2.2 (kN.2 ae)
theorem QH(m:Nat)(e:Int)(more:Bool)(p:Nat)(out:Bool):kD m e more p out<=2^p:=by
 have:=QU m e p;unfold kD;split<;>omega
theorem mi(neg:Bool)(m:Nat)(e:Int)(more:Bool)(p:Nat)(up:Bool)(hp:1<=p)(ic:p<=4096):(jP neg m e more p up).ib:=by
 unfold jP;by_cases ho:lN m e more p (neg != up)=true
 .rw [aR ho]
  by_cases hn:(neg != up)=true
  .rw [aR hn];exact rm
  .rw [aQ hn]
   have vZ:2<=2^p:=by
    have:=bh (n:=2) ag hp;omega
   have h0:2^p-1≠0:= ae ;have hb:ia (2^p-1)=p:=by
    obtain⟨j,rfl⟩:∃ j,p=j+1:=⟨p-1,ae⟩
    have h2:2^(j+1)=2^j*2:=aZ _ _;have h3:=aY (n:=j) (ag:0<2);exact uD ae ae 
   obtain⟨h1,h2,h3,h4⟩:=AT (s:=neg) (e:=(16384:Int)-p) h0;have h5:=mR h3;exact⟨qJ _ _ _,.inr ⟨ae,ae,ae,ae⟩⟩
 .rw [aQ ho]
  refine⟨qJ _ _ _,?_⟩;by_cases h0:kD m e more p (neg != up)=0
  .rw [h0];exact .inl rfl
  .have hq:=aaS (s:=neg) (e:=e+(ja m e p:Int)) (QH m e more p (neg != up)) hp
   obtain⟨h1,h2,h3,h4⟩:=AT (s:=neg) (e:=e+(ja m e p:Int)) h0;have h5:=mR h3;have h6:-16384<=e+(ja m e p:Int):=by unfold ja;omega
   unfold lN at ho;simp only[cV,h0,ep,fI,ev,bW]at ho;exact .inr ⟨ae,ae,ae,ae⟩
theorem DZ{neg:Bool}{m:Nat}{e:Int}{more:Bool}{p:Nat}{up:Bool}:jG neg m e more p up=0↔¬(lN m e more p (neg != up)=true/\(neg != up)=true):=by
 unfold jG;cases lN m e more p (neg != up)<;>cases(neg != up)<;>simp
theorem QJ(neg:Bool)(m:Nat)(e:Int)(more:Bool)(p:Nat)(h1:jG neg m e more p false=0)(h2:jG neg m e more p true=0):
 jm (jP neg m e more p false) (jP neg m e more p true)<=0:=by
 have qy:¬lN m e more p true=true:=by
  cases neg
  .rw [DZ]at h2;simpa using h2
  .rw [DZ]at h1;simpa using h1
 have hle:kD m e more p false<=kD m e more p true:=by
  unfold kD;simp only[bq,false_and,a6];omega
 have lV:¬lN m e more p false=true:=by
  unfold lN at qy ⊢;intro h;apply qy;simp only[bB,bW]at h ⊢;have:=sQ hle;exact⟨ae,ae⟩
 have key:∀ o:Bool,¬lN m e more p o=true:=fun o=>by cases o;exact lV;exact qy
 unfold jP;rw[aQ (key _),aQ (key _)];rw[Ci (k:=e+(ja m e p:Int)) (zf (bY _)) (zf (bY _)),BH (bY _),BH (bY _)];rw[show(e+(ja m e p:Int)-(e+(ja m e p:Int))).toNat=0 by omega];simp only[bN,bO];unfold vF;cases neg
 .simp only[bq,a6,Bool.false_bne]
  split
  .decide
  .split<;>omega
 .simp only[bk,Bool.true_bne,dU,eP]
  split
  .decide
  .split<;>omega
def mH(b:Dy)(low:Int):Nat:=if low<=b.e then b.m*2^(b.e-low).toNat else b.m/2^(low-b.e).toNat
def nx(b:Dy)(low:Int):Bool:=decide (¬low<=b.e)&&decide (b.m%2^(low-b.e).toNat≠0)
theorem XC{a b:Dy}(ha:a.lG)(hb:b.lG){K:Int}(h1:K<=a.e)(h2:K<=b.e):iI a b=kT (a.num K+b.num K) K:=by
 refine KU (k:=K) (AU ha hb) (qJ _ _ _) (Gt (.inr h1) (.inr h2)) (J8 (bY _)) ?_;rw[JG (.inr h1) (.inr h2),Ng (bY _),show(K-K).toNat=0 by omega];simp
theorem Jv{a b:Dy}(ha:a.lG)(hb:b.lG){K:Int}(h1:K<=a.e)(h2:K<=b.e)(s:Bool)(Z:Nat)(h0:Z≠0)(hz:a.num K+b.num K=if s then -(Z:Int)else(Z:Int))(p:Nat)(up:Bool):
 jh (iI a b) p up=jP s Z K false p up/\jz (iI a b) p up=jG s Z K false p up:=by
 have:iI a b=canon s Z K:=by rw[XC ha hb h1 h2,hz,GO]
 rw[this];exact WK s up Z K p h0
theorem I5(d:Dy)(K:Int):d.num K=if d.neg then -(d.jQ K:Int)else(d.jQ K:Int):=rfl
section
variable {a b:Dy} {low:Int} {p:Nat}
theorem N8(a0:a.m≠0)(b0:b.m≠0)(h1:low<=a.e)(h2:low<=a.iu-p-8)(h3:low<=b.e\/3<=a.iu-b.iu):
 ∃ (K:Int) (d:Nat),K<=a.e/\K<=b.e/\low=K+d/\a.jQ K=a.m*2^(a.e-low).toNat*2^d/\mH b low=b.jQ K/2^d/\(nx b low=decide (b.jQ K%2^d≠0)) /\
  (d=0\/(p+8<=ia (a.m*2^(a.e-low).toNat)/\ia (b.jQ K/2^d)+3<=ia (a.m*2^(a.e-low).toNat))):=by
 have ta:a.iu=ia a.m+a.e:=by unfold Dy.iu;rw[aQ a0]
 have tb:b.iu=ia b.m+b.e:=by unfold Dy.iu;rw[aQ b0]
 have hx:=qf a0 (a.e-low).toNat
 by_cases h:low<=b.e
 .refine ⟨low,0,h1,h,ae,by unfold Dy.jQ;simp,?_,?_,.inl rfl⟩
  .unfold mH Dy.jQ;rw[aR h];simp
  .unfold nx;simp[h,cH]
 .refine ⟨b.e,(low-b.e).toNat,ae,bY _,ae,?_,?_,?_,.inr ⟨ae,?_⟩⟩
  .unfold Dy.jQ
   rw[bc,<-aV];congr 2;omega
  .unfold mH Dy.jQ;rw[aQ h];simp
  .unfold nx Dy.jQ;simp[h]
  .have hm:b.jQ b.e=b.m:=by unfold Dy.jQ;simp
   rw[hm];have hd:ia (b.m/2^(low-b.e).toNat)<=ia b.m-(low-b.e).toNat:=by
    rw[kN,bR (aY ag),<-aV];exact kN.1 ae 
   have:=h3.resolve_left h;omega
theorem ajS(ha:a.lG)(hb:b.lG)(a0:a.m≠0)(b0:b.m≠0)(h1:low<=a.e)(h2:low<=a.iu-p-8)(h3:low<=b.e\/3<=a.iu-b.iu)(hs:a.neg=b.neg)(up:Bool):
 jP a.neg (a.m*2^(a.e-low).toNat+mH b low) low (nx b low) p up=jh (iI a b) p up/\jG a.neg (a.m*2^(a.e-low).toNat+mH b low) low (nx b low) p up=jz (iI a b) p up:=by
 obtain⟨K,d,k1,k2,rfl,hx,hy,hl,hd⟩:=N8 (p:=p) a0 b0 h1 h2 h3;generalize a.m*2^(a.e-(K+d)).toNat=x at *
 have ma:=u6 a0 K;have mb:=u6 b0 K;obtain⟨r1,r2⟩:=Jv ha hb k1 k2 a.neg (a.jQ K+b.jQ K) ae (by
  rw[I5 a,I5 b,<-hs];cases a.neg<;>simp<;>omega) p up
 rw[r1,r2,hy,hl];have e1:(a.jQ K+b.jQ K)/2^d=x+b.jQ K/2^d:=by
  rw[hx,a7 x,c9 (aY ag)]
 have e2:(a.jQ K+b.jQ K)%2^d=b.jQ K%2^d:=by
  rw[hx,a7 x,dw]
 rcases hd with rfl|⟨uS,sY⟩
 .simp only[bN,dC,cH]at e1 ⊢
  rw[<-e1];have:K+((0:Nat):Int)=K:= ae ;rw[this];simp
 .have hb:p<ia ((a.jQ K+b.jQ K)/2^d):=by
   rw[e1];have:=sQ (show x<=x+b.jQ K/2^d by omega);omega
  have h:=GV (E:=K) (more:=false) a.neg up hb;rw[e1,e2,amU]at h;exact h
theorem akL{x N D:Nat}(hD:0<D)(h:N<=x*D):(x*D-N)/D=x-(N/D+if N%D≠0 then 1 else 0)/\((x*D-N)%D≠0↔N%D≠0)/\N/D+(if N%D≠0 then 1 else 0)<=x:=by
 have hN:=bU N D;have hr:=bg N hD;generalize N/D=q at *
 generalize N%D=r at *
 by_cases h0:r=0
 .subst h0
  simp only[cV,gT,a6,bt]at hN ⊢;have hq:q<=x:=by
   apply bE;intro h';have:=bC D (show x+1<=q by omega);rw[bK,a7 q]at this;omega
  have e:x*D-N=(x-q)*D:=by rw[Nat.sub_mul,<-hN,a7 q]
  rw[e,dt _ hD,eF];exact⟨rfl,aj,hq⟩
 .have hq:q+1<=x:=by
   apply bE;intro h';have:=bC D (show x<=q by omega);rw[a7 q]at this;omega
  have e:x*D-N=(D-r)+D*(x-(q+1)):=by
   have h1:D*(x-(q+1))=D*x-D*(q+1):=Nat.mul_sub _ _ _;have h2:D*(q+1)<=D*x:=ca _ hq;rw[bn,bO]at h1 h2;rw[a7 x];omega
  have iD:D-r<D:= ae ;rw[e,eB _ _ hD,bT iD,dN,bu iD];simp only[cV,h0,ep,bk];exact⟨ae,⟨fun _=>trivial,fun _=> ae⟩,hq⟩
theorem ajR(ha:a.lG)(hb:b.lG)(a0:a.m≠0)(b0:b.m≠0)(h1:low<=a.e)(h2:low<=a.iu-p-8)(h3:low<=b.e\/3<=a.iu-b.iu)(hs:a.neg≠b.neg)(up:Bool):
  (a.m*2^(a.e-low).toNat<mH b low+(if nx b low=true then 1 else 0) ->
   jP (!a.neg) (mH b low+(if nx b low=true then 1 else 0)-a.m*2^(a.e-low).toNat) low false p up=jh (iI a b) p up/\jG (!a.neg) (mH b low+(if nx b low=true then 1 else 0)-a.m*2^(a.e-low).toNat) low false p up=jz (iI a b) p up) /\
  (mH b low+(if nx b low=true then 1 else 0)<=a.m*2^(a.e-low).toNat ->
   (a.m*2^(a.e-low).toNat-(mH b low+(if nx b low=true then 1 else 0))=0/\nx b low=false->iI a b=jx) /\
   (¬(a.m*2^(a.e-low).toNat-(mH b low+(if nx b low=true then 1 else 0))=0/\nx b low=false) ->
    jP a.neg (a.m*2^(a.e-low).toNat-(mH b low+(if nx b low=true then 1 else 0))) low (nx b low) p up=jh (iI a b) p up/\jG a.neg (a.m*2^(a.e-low).toNat-(mH b low+(if nx b low=true then 1 else 0))) low (nx b low) p up=jz (iI a b) p up)):=by
 obtain⟨K,d,k1,k2,rfl,hx,hy,hl,hd⟩:=N8 (p:=p) a0 b0 h1 h2 h3;generalize a.m*2^(a.e-(K+d)).toNat=x at *
 have ma:=u6 a0 K;have mb:=u6 b0 K;have Is:a.num K+b.num K=if a.neg then(b.jQ K:Int)-a.jQ K else(a.jQ K:Int)-b.jQ K:=by
  rw[I5 a,I5 b];cases h:a.neg<;>cases h':b.neg<;>simp[h,h']at hs ⊢ <;> omega
 rw[hy,hl];rcases hd with rfl|⟨uS,sY⟩
 .
  rw[bN,bO]at hx;have e0:K+((0:Nat):Int)=K:= ae ;simp only[bN,dC,cH,cV,gT,decide_false,bq,a6,bt,e0,and_true];refine⟨fun iD=>?_,fun hle=>⟨fun hz=>?_,fun hz=>?_⟩⟩
  .obtain ⟨r1,r2⟩:=Jv ha hb k1 k2 (!a.neg) (b.jQ K-x) ae (by
    rw[Is,hx];cases a.neg<;>simp<;>omega) p up
   exact⟨r1.symm,r2.symm⟩
  .rw [XC ha hb k1 k2,Is,hx]
   have:x=b.jQ K:= ae ;rw[this];cases a.neg<;>simp[kT,canon,jx]
  .obtain ⟨r1,r2⟩:=Jv ha hb k1 k2 a.neg (x-b.jQ K) ae (by
    rw[Is,hx];cases a.neg<;>simp<;>omega) p up
   exact⟨r1.symm,r2.symm⟩
 .
  have hD:=aY (n:=d) (ag:0<2);have mj:x≠0:=by intro h;rw[h]at uS;simp[ia]at uS
  obtain⟨j,hj⟩:∃ j,ia x=j+3:=⟨ia x-3,ae⟩
  have lv:=rj mj;rw[hj,show j+3-1=j+2 by omega,aV]at lv;have CY:b.jQ K/2^d<2^j:=kN.1 ae;have hle:b.jQ K<=x*2^d:=by
   have h5:=bU (b.jQ K) (2^d);have h6:=bg (b.jQ K) hD;have h7:2^d*(b.jQ K/2^d+1)<=2^d*x:=ca _ ae;rw[bn,bO,a7 _ x]at h7;omega
  obtain⟨e1,e2,e3⟩:=akL hD hle;have hc:(if decide (b.jQ K%2^d≠0)=true then 1 else 0)=(if b.jQ K%2^d≠0 then 1 else 0):=by simp only[bW]
  rw[hc];have xW:p<ia (x-(b.jQ K/2^d+if b.jQ K%2^d≠0 then 1 else 0)):=by
   have h8:2^(j+1)<=x-(b.jQ K/2^d+if b.jQ K%2^d≠0 then 1 else 0):=by
    rw[aZ];have h9:2^j*2^2<=x:=lv;have vN:=aY (n:=j) (ag:0<2);split<;>omega
   have:=r7.2 h8;omega
  refine⟨fun iD=> ae,fun _=>⟨fun hz=>?_,fun _=>?_⟩⟩
  .exfalso
   rw[hz.1]at xW;simp[ia]at xW
  .obtain ⟨r1,r2⟩:=Jv ha hb k1 k2 a.neg (a.jQ K-b.jQ K) (by
    intro h;rw[<-hx,h,fL]at e1;rw[<-e1]at xW;simp[ia]at xW) (by
    rw[Is];cases a.neg<;>simp<;>omega) p up
   rw[r1,r2,hx];rw[<-e1]at xW ⊢;have h:=GV (E:=K) (more:=false) a.neg up xW;rw[amU]at h;have e4:decide ((x*2^d-b.jQ K)%2^d≠0)=decide (b.jQ K%2^d≠0):=amQ.2 e2;rw[e4]at h;exact h
end
def jk(m:Nat)(e:Int)(p:Nat):Int:=max (e+ia m-p) (-16384)
def nB(m:Nat)(e:Int)(more:Bool)(p:Nat)(up:Bool):Nat:=
 if jk m e p<=e then m*2^(e-jk m e p).toNat else m/2^(jk m e p-e).toNat+if(up&&(more||decide (m%2^(jk m e p-e).toNat≠0)))=true then 1 else 0
theorem QG{m:Nat}{e:Int}{more:Bool}{p:Nat}(up:Bool)(h0:m≠0)(hm:more=true->p<ia m)(hp:1<=p):
 (ia (nB m e more p up):Int)+jk m e p<=16384/\jP false m e more p up=canon false (nB m e more p up) (jk m e p)/\jG false m e more p up=0 \/
 16384<(ia (nB m e more p up):Int)+jk m e p/\((up=true/\jP false m e more p up=jx/\jG false m e more p up=9)\/(up=false/\jP false m e more p up=canon false (2^p-1) (16384-p)/\jG false m e more p up=0)):=by
 have qy:(false != up)=up:=by cases up<;>rfl
 by_cases hU:jk m e p<=e
 .
  have hmf:more=false:=by
   cases Md:more with
   |false=>rfl
   |true=>have:=hm Md;unfold jk at hU;omega
  subst hmf;have hK:ja m e p=0:=by unfold jk at hU;unfold ja;omega
  have hQ:kD m e false p up=m:=by unfold kD;rw[hK];simp[cH]
  have hP:nB m e false p up=m*2^(e-jk m e p).toNat:=by unfold nB;rw[aR hU]
  have hb:ia (nB m e false p up)=ia m+(e-jk m e p).toNat:=by rw[hP];exact qf h0 _
  have hc:canon false (nB m e false p up) (jk m e p)=canon false m e:=by
   rw[hP];have:=KA false m e (e-jk m e p).toNat
   rwa[show e-((e-jk m e p).toNat:Int)=jk m e p by omega]at this
  have hO:lN m e false p up=decide (16384<(ia m:Int)+e):=by
   unfold lN;rw[hQ,hK];simp[h0]
  by_cases s6:16384<(ia m:Int)+e
  .refine .inr ⟨ae,?_⟩
   unfold jP jG;rw[qy,hO,aS s6];cases up
   .exact .inr ⟨rfl,rfl,rfl⟩
   .exact .inl ⟨rfl,rfl,rfl⟩
  .refine .inl ⟨ae,?_,?_⟩
   .unfold jP
    rw[qy,hO,aT s6,aQ ag,hQ,hK,hc];simp
   .unfold jG
    rw[qy,hO,aT s6];simp
 .have hK:ja m e p=(jk m e p-e).toNat:=by unfold jk at hU ⊢;unfold ja;omega
  have hQ:kD m e more p up=nB m e more p up:=by
   unfold kD nB;rw[aQ hU,hK];congr 1;cases up<;>cases more<;>simp
  have heK:e+(ja m e p:Int)=jk m e p:=by rw[hK];omega
  have ks:16384<(ia (nB m e more p up):Int)+jk m e p->nB m e more p up≠0:=by
   intro h hz;have pR:m/2^(jk m e p-e).toNat=0:=by
    unfold nB at hz;rw[aQ hU]at hz;exact(Nat.add_eq_zero_iff.1 hz).1
   have iD:m<2^(jk m e p-e).toNat:=by
    rcases Nat.div_eq_zero_iff.1 pR with h|h
    .exact absurd h (dF (aY ag))
    .exact h
   have:=kN.2 iD;rw[hz,qR]at h;have sE:=mR h0;unfold jk at h hU this;omega
  have hO:lN m e more p up=decide (16384<(ia (nB m e more p up):Int)+jk m e p):=by
   unfold lN;rw[hQ,show(ia (nB m e more p up):Int)+e+(ja m e p:Int)=(ia (nB m e more p up):Int)+jk m e p by omega];by_cases s6:16384<(ia (nB m e more p up):Int)+jk m e p
   .simp [ks s6]
   .simp [s6]
  by_cases s6:16384<(ia (nB m e more p up):Int)+jk m e p
  .refine .inr ⟨s6,?_⟩
   unfold jP jG;rw[qy,hO,aS s6];cases up
   .exact .inr ⟨rfl,rfl,rfl⟩
   .exact .inl ⟨rfl,rfl,rfl⟩
  .refine .inl ⟨ae,?_,?_⟩
   .unfold jP
    rw[qy,hO,aT s6,aQ ag,hQ,heK]
   .unfold jG
    rw[qy,hO,aT s6];simp
theorem QF{m:Nat}{e:Int}{more:Bool}{p:Nat}{up:Bool}(h0:m≠0):ia (nB m e more p up)<=p+1:=by
 unfold nB;split
 .rename_i h
  rw[qf h0];unfold jk at h ⊢;omega
 .rename_i h
  have h1:m/2^(jk m e p-e).toNat<2^p:=by
   rw[bR (aY ag),<-aV];refine kN.1 ?_;unfold jk at h ⊢;omega
  refine kN.2 ?_;rw[aZ];have:0<2^p:=aY ag;split<;>omega
theorem ng{m k:Nat}(h:ia m<=32*k):(gU m).length<=k:=by
 refine qX ?_;rw[nD];exact kN.1 h
theorem vD{m k:Nat}(h:(gU m).length<=k):ia m<=32*k:=by
 have:=ub h;rw[nD]at this;exact kN.2 this
theorem QW{m n:Nat}(h:ia m<=n):m/2^n=0/\m%2^n=m:=by
 have:=kN.1 h;exact⟨bT this,bu this⟩
theorem Uu(m n:Nat):(jY (m/2^n*2^n) m != 0)=decide (m%2^n≠0):=by
 have h:=bU m (2^n);rw[a7]at h;unfold jY;by_cases h0:m%2^n=0
 .rw [aQ ae,aQ ae];simp[h0]
 .rw [aR ae];simp[h0]
theorem QN(neg:Bool)(m:Nat)(e:Int)(more:Bool)(p:Nat)(up:Bool):
 jG neg m e more p up=jG false m e more p (up != neg) /\
 (jG false m e more p (up != neg)=0->neg=true->iF (jP false m e more p (up != neg))=jP neg m e more p up) /\
 ((jG false m e more p (up != neg)≠0\/neg=false)->jP false m e more p (up != neg)=jP neg m e more p up):=by
 have qy:(false != (up != neg))=(neg != up):=by cases up<;>cases neg<;>rfl
 have hE:jG neg m e more p up=jG false m e more p (up != neg):=by unfold jG;rw[qy]
 refine⟨hE,fun h hn=>?_,fun h=>?_⟩
 .have h':=DZ.1 h
  rw[qy]at h';have neg_canon:∀ q u,iF (canon false q u)=canon true q u:=by
   intro q u;unfold canon iF;by_cases hq:q=0
   .simp [hq]
   .rw [aQ hq,aQ hq]
    have:=Dc hq;have h0:q/2^jO q≠0:= ae ;simp[h0]
  subst hn;unfold jP;rw[qy];by_cases ho:lN m e more p (true != up)=true
  .have hu:(true != up)=false:=by
    cases hq:(true != up)with
    |false=>rfl
    |true=>exact absurd ⟨ho,hq⟩ h'
   rw[aR ho,aR ho,hu];simp only[bq,a6];exact neg_canon _ _
  .rw [aQ ho,aQ ho]
   exact neg_canon _ _
 .rcases h with h|h
  .have h1:lN m e more p (neg != up)=true/\(neg != up)=true:=by
    by_cases q:lN m e more p (neg != up)=true/\(neg != up)=true
    .exact q
    .exact absurd (DZ.2 (by rw[qy];exact q)) h
   unfold jP;rw[qy,aR h1.1,aR h1.2,aR h1.1,aR h1.2]
  .subst h
   cases up<;>rfl
def jl(a b:Dy)(p:Nat):Int:=if a.iu-b.iu<=2 then min (min a.e (a.iu-p-8)) b.e else min a.e (a.iu-p-8)
def nE(a b:Dy)(p:Nat):Nat:=a.m*2^(a.e-jl a b p).toNat
def mG(a b:Dy)(p:Nat):Nat:=mH b (jl a b p)+if(a.neg != b.neg&&nx b (jl a b p))=true then 1 else 0
def o9(a b:Dy)(p:Nat):Bool:=(a.neg != b.neg)&&decide (nE a b p<mG a b p)
def lP(a b:Dy)(p:Nat):Nat:=if a.neg=b.neg then nE a b p+mG a b p else if nE a b p<mG a b p then mG a b p-nE a b p else nE a b p-mG a b p
def mX(a b:Dy)(p:Nat):Bool:=nx b (jl a b p) && !o9 a b p
theorem NY(a b:Dy)(p:Nat):jl a b p<=a.e/\jl a b p<=a.iu-p-8/\(jl a b p<=b.e\/3<=a.iu-b.iu):=by
 unfold jl;split<;>omega
theorem F3{a:Dy}(a0:a.m≠0):a.iu=ia a.m+a.e:=by unfold Dy.iu;rw[aQ a0]
structure YN(a b:Dy)(p:Nat):Prop where
 lo:-17000<=jl a b p
 hi:jl a b p<=16384
 x:ia (nE a b p)<=4100
 x0:nE a b p≠0
 sh:(a.e-jl a b p).toNat<=60000
 sh2:(b.e-jl a b p).toNat<=60000
 sh3:(jl a b p-b.e).toNat<=60000
 y:ia (mH b (jl a b p))<=4100
 l:nx b (jl a b p)=true->p+8<=ia (nE a b p)/\ia (mH b (jl a b p))+3<=ia (nE a b p)
theorem JI{a b:Dy}{p:Nat}(ha:a.ib)(hb:b.ib)(a0:a.m≠0)(b0:b.m≠0)(ht:b.iu<=a.iu)(ic:p<=512):YN a b p:=by
 have ra:=ha.range.resolve_left a0;have rb:=hb.range.resolve_left b0;have ta:=F3 a0;have tb:=F3 b0;obtain⟨h1,h2,h3⟩:=NY a b p;have hx:ia (nE a b p)=ia a.m+(a.e-jl a b p).toNat:=qf a0 _;have zP:jl a b p=a.e\/jl a b p=a.iu-p-8\/(a.iu-b.iu<=2/\jl a b p=b.e):=by unfold jl;split<;>omega
 have hy:ia (mH b (jl a b p))<=ia (nE a b p):=by
  unfold mH;split
  .rw [qf b0];omega
  .have:ia (b.m/2^(jl a b p-b.e).toNat)<=ia b.m-(jl a b p-b.e).toNat:=by
    rw[kN,bR (aY ag),<-aV];exact kN.1 ae 
   omega
 have pa:=mR a0;have pb:=mR b0;refine⟨ae,ae,ae,?_,ae,ae,ae,ae,fun hl=>?_⟩
 .intro h
  unfold nE at h;exact(dr a0 (dF (aY ag))) h
 .obtain ⟨K,d,k1,k2,k3,k4,k5,k6,k7⟩:=N8 (p:=p) a0 b0 h1 h2 h3
  rcases k7 with rfl|⟨k7,k8⟩
  .rw [k6]at hl;simp[cH]at hl
  .rw [k5];exact⟨k7,k8⟩
theorem Ov{a b:Dy}{p:Nat}(ha:a.ib)(hb:b.ib)(a0:a.m≠0)(b0:b.m≠0)(ht:b.iu<=a.iu)(ic:p<=512):
 ia (mG a b p)<=4101/\ia (lP a b p)<=4102/\(mX a b p=true->p<ia (lP a b p)):=by
 obtain⟨l1,l2,l3,l4,l5,l6,l7,l8,l9⟩:=JI ha hb a0 b0 ht ic;have hy:mG a b p<=mH b (jl a b p)+1:=by unfold mG;split<;>omega
 obtain⟨K,hK⟩:∃ K:Nat,K=4100:=⟨_,rfl⟩
 have g1:4101=K+1:= ae ;have g2:4102=K+2:= ae ;rw[g1,g2];rw[<-hK]at l3 l8;have hy4:mH b (jl a b p)<2^K:=kN.1 l8;have hx4:nE a b p<2^K:=kN.1 l3;have e1:(2:Nat)^(K+1)=2*2^K:=by rw[aZ];omega
 have e2:(2:Nat)^(K+2)=4*2^K:=by rw[aV];omega
 generalize (2:Nat)^K=Z at *
 refine⟨kN.2 ae,kN.2 ?_,fun hl=>?_⟩
 .unfold lP;split
  .omega
  .split<;>omega
 .unfold mX at hl
  simp only[bB,fc]at hl;obtain⟨q1,q2⟩:=l9 hl.1;have hX:2^(ia (nE a b p)-1)<=nE a b p:=rj l4;rw[r7];have hY:mH b (jl a b p)<2^(ia (nE a b p)-3):=kN.1 ae;have e3:(2:Nat)^(ia (nE a b p)-1)=4*2^(ia (nE a b p)-3):=by
   rw[show ia (nE a b p)-1=(ia (nE a b p)-3)+2 by omega,aV];omega
  have hp:(2:Nat)^p<=2^(ia (nE a b p)-3):=bh ag ae;unfold lP;split
  .omega
  .rename_i hs
   unfold o9 at hl;rw[aQ (by
    have:=hl.2;simp[hs]at this;omega)]
   omega
theorem XI{a b:Dy}{p:Nat}(ha:a.ib)(hb:b.ib)(a0:a.m≠0)(b0:b.m≠0)(up:Bool):
 (lP a b p=0/\mX a b p=false->iI a b=jx) /\
 (¬(lP a b p=0/\mX a b p=false)->jP (a.neg != o9 a b p) (lP a b p) (jl a b p) (mX a b p) p up=jh (iI a b) p up/\jG (a.neg != o9 a b p) (lP a b p) (jl a b p) (mX a b p) p up=jz (iI a b) p up):=by
 obtain⟨h1,h2,h3⟩:=NY a b p;by_cases hs:a.neg=b.neg
 .have hn:(a.neg != b.neg)=false:=by rw[hs];simp
  have e1:o9 a b p=false:=by unfold o9;rw[hn];rfl
  have e2:mX a b p=nx b (jl a b p):=by unfold mX;rw[e1];simp
  have e3:lP a b p=a.m*2^(a.e-jl a b p).toNat+mH b (jl a b p):=by unfold lP;rw[aR hs];unfold nE mG;rw[hn];simp
  have hx:lP a b p≠0:=by
   rw[e3];have:=dr a0 (dF (aY (n:=(a.e-jl a b p).toNat) (show 0<2 by decide)));omega
  refine⟨fun h=>absurd h.1 hx,fun _=>?_⟩;rw[e1,e2,e3];have:=ajS ha.canon hb.canon a0 b0 h1 h2 h3 hs up;cases hA:a.neg<;>rw[hA]at this<;>exact this
 .have hn:(a.neg != b.neg)=true:=by simpa using hs
  have eY:mG a b p=mH b (jl a b p)+if nx b (jl a b p)=true then 1 else 0:=by unfold mG;rw[hn];simp
  obtain⟨r1,r2⟩:=ajR (p:=p) ha.canon hb.canon a0 b0 h1 h2 h3 hs up;rw[<-eY]at r1 r2;change nE a b p<mG a b p->_ at r1;change mG a b p<=nE a b p->_ at r2;by_cases hc:nE a b p<mG a b p
  .have e1:o9 a b p=true:=by unfold o9;rw[hn,aS hc];rfl
   have e2:mX a b p=false:=by unfold mX;rw[e1];simp
   have e3:lP a b p=mG a b p-nE a b p:=by unfold lP;rw[aQ hs,aR hc]
   rw[e1,e2,e3];refine⟨fun h=> ae,fun _=>?_⟩;have:=r1 hc;cases hA:a.neg<;>rw[hA]at this<;>exact this
  .have e1:o9 a b p=false:=by unfold o9;rw[hn,aT hc];rfl
   have e2:mX a b p=nx b (jl a b p):=by unfold mX;rw[e1];simp
   have e3:lP a b p=nE a b p-mG a b p:=by unfold lP;rw[aQ hs,aQ hc]
   rw[e1,e2,e3];obtain⟨q1,q2⟩:=r2 ae;refine⟨q1,fun h=>?_⟩;have:=q2 h;cases hA:a.neg<;>rw[hA]at this<;>exact this
end Go.Proofs.YtdgnpeddgdclhaaGreatDoor.Fp
namespace Go.Proofs.YtdgnpeddgdclhaaGreatDoor
open Go.RowKit Fp
theorem ZZ(a b:Nat):ia (a*b)<=ia a+ia b:=by
 rw[kN,aV];exact gl (oM a) (oM b)
theorem ajp(a:Dy)(A:Option Addr)(c:Nat)(w:World)(h:Sl w A c (gU a.m))(ha:a.ib):
 Calls Tryz.prog 46 #[DV a A c] w fun e w'=>e = .returned (.bool true)/\iy w w':=
 Jq a.neg A c (gU a.m) a.e w true h (by have:=ha.exp;omega) (by have:=ha.exp;omega) (by simp[ha.vH])
theorem ajl(a:Dy)(A:Option Addr)(c:Nat)(w:World)(h:Sl w A c (gU a.m)):
 Calls Tryz.prog 47 #[DV a A c] w fun e w'=>e = .returned (.int .i64 a.iK)/\iy w w':=by
 have:=ajk a.neg A c (gU a.m) a.e w h (tn _);rw[jC]at this;exact this
theorem ajo(a:Dy)(A:Option Addr)(c:Nat)(w:World)(h:Sl w A c (gU a.m))(ha:uz a):
 Calls Tryz.prog 97 #[DV a A c] w fun e w'=>e = .returned (.int .i64 a.iu)/\iy w w':=by
 have:=ajn a.neg A c (gU a.m) a.e w h (tn _) (by have:=ha.len;omega) (by have:=ha.lo;omega) (by have:=ha.hi;omega);rw[jC]at this;exact this
open Go.RowKit Fp
theorem GQ(d:Dy)(A:Option Addr)(c:Nat)(w:World)(hs:Sl w A c (gU d.m))(hl:(gU d.m).length<=100000000)(kQ:-10000000<=d.e)(kx:d.e<=10000000):
 Calls Tryz.prog 78 #[DV d A c] w (sN w (kC d) (mI d)):=by
 by_cases hd:mP d
 .rw [AV hd,GS hd];exact Qp d A c w hs hl kQ kx hd
 .rw [KD hd,GR hd];exact aa3 d A c w hs hl kQ kx hd
theorem Ky(s:Bool)(m:Nat)(e:Int){n:Nat}(hm:(gU m).length<=n):(gU (canon s m e).m).length<=n/\e<=max (canon s m e).e e/\((canon s m e).e<=max 0 (e+32*n))/\min 0 e<=(canon s m e).e:=by
 unfold canon;by_cases h0:m=0
 .rw [aR h0];simp only[nh]
  exact⟨bL _,ae,ae,ae⟩
 .rw [aQ h0]
  have h1:jO m<32*n:=by
   have h1:=Dh h0;have h2:=ub hm;rw[nD]at h2;exact(gO (ag:1<2)).1 (bQ h1 h2)
  exact⟨aX (lW (bw _ _)) hm,ae,by simp only;omega,by simp only;omega⟩
theorem Ch(s:Bool)(m:Nat)(e:Int)(A:Option Addr)(c:Nat)(w:World)(hs:Sl w A c (gU m))(hl:(gU m).length<=256)(kQ:-1000000<=e)(kx:e<=1000000)(kp:Tb w):
 Calls Tryz.prog 79 #[.bool s,.slice A (gU m).length c,.int .i64 e] w (tv w (canon s m e)):=by
 have:=G8 s A c (gU m) e w hs ae (by have:=oG (gU m);unfold lQ at this;omega) kQ kx kp;rw[jC]at this;exact this
theorem Nc{m:Nat}(h:m=0):(((gU m).length:Int)==0)=true:=by rw[h,nh];rfl
theorem Jd{m:Nat}(h:m≠0):(((gU m).length:Int)==0)=false:=by
 refine aJ ?_;have:gU m≠[]:=fun e=>h (Uh.1 e)
 have:=dX.2 this;omega
theorem abQ(a b:Dy)(A B:Option Addr)(c d:Nat)(w:World)(_hs:Sl w A c (gU a.m))(hr:Sl w B d (gU b.m))(kp:Tb w)(hb:b.ib)(h0:a.m=0):
 Calls Tryz.prog 190 #[DV a A c,DV b B d] w (sN w (kC (iI a b)) (mI (iI a b))):=by
 have yp:iI a b=b:=by unfold iI;rw[aR h0]
 rw[yp,AV hb.range,GS hb.range];have hl:=hb.len;obtain⟨kQ,kx⟩:=hb.exp;have HC:=Lib.hid (fun w (h:Sl w B d (gU b.m)) (ht:Tb w)=>Ch b.neg b.m b.e B d w h hl ae ae ht);rw[hb.canon.Cf]at HC;have n0:=Nc h0;clear yp h0;have hE:=((iy.alloc w (.cells #[.bool b.neg,.slice B ((gU b.m).length) d,.int .i64 b.e] 31)).trans (iy.alloc (w.alloc (.cells #[.bool b.neg,.slice B ((gU b.m).length) d,.int .i64 b.e] 31)) (.cells #[.bool b.neg,.slice B ((gU b.m).length) d,.int .i64 b.e] 31))).trans (iy.alloc ((w.alloc (.cells #[.bool b.neg,.slice B ((gU b.m).length) d,.int .i64 b.e] 31)).alloc (.cells #[.bool b.neg,.slice B ((gU b.m).length) d,.int .i64 b.e] 31)) (.cells #[.bool false,.slice none 0 0,.int .i64 0] 31));have b1:=((jg.pt (W:=w) (g:=w.heap.size) aj b.neg B ((gU b.m).length) d b.e).alloc (.cells #[.bool b.neg,.slice B ((gU b.m).length) d,.int .i64 b.e] 31)).alloc (.cells #[.bool false,.slice none 0 0,.int .i64 0] 31);have b2:=(jg.pt (W:=(w.alloc (.cells #[.bool b.neg,.slice B ((gU b.m).length) d,.int .i64 b.e] 31))) (g:=w.heap.size+1) aj b.neg B ((gU b.m).length) d b.e).alloc (.cells #[.bool false,.slice none 0 0,.int .i64 0] 31);have b3:=jg.pt (W:=((w.alloc (.cells #[.bool b.neg,.slice B ((gU b.m).length) d,.int .i64 b.e] 31)).alloc (.cells #[.bool b.neg,.slice B ((gU b.m).length) d,.int .i64 b.e] 31))) (g:=w.heap.size+2) aj false none 0 0 0;replace hr:=hr.below hE;replace kp:=kp.below hE;go_enter Tryz.func190,Tryz.ntmps190;go_wp2_with fail
 (with_reducible refine(HC.out _ hr kp).mono ?_)
 rintro r w1 ⟨A_h4,c_h4,rfl,h4,hb⟩;replace hE:=hE.trans hb;replace hr:=hr.below hb;replace kp:=kp.below hb;replace b1:=b1.ext hb;replace b2:=b2.ext hb;replace b3:=b3.ext hb;clear hb;have Gh:=b3.c0;have yb30:=b3.fr 0;have Gi:=b3.c1;have yb31:=b3.fr 1;have Gj:=b3.c2;have yb32:=b3.fr 2;go_wp2;exact uI (d:=b) rfl rfl rfl rfl (b3.set _ _ _ _ _) rfl (b3.qm h4 _ _ _ _ _) (jg.qc hE ae _ _ _ _ _)
theorem abR(a b:Dy)(A B:Option Addr)(c d:Nat)(w:World)(hs:Sl w A c (gU a.m))(kp:Tb w)(ha:a.ib)(h1:a.m≠0)(h0:b.m=0):
 Calls Tryz.prog 190 #[DV a A c,DV b B d] w (sN w (kC (iI a b)) (mI (iI a b))):=by
 have yp:iI a b=a:=by unfold iI;rw[aQ h1,aR h0]
 rw[yp,AV ha.range,GS ha.range];have hl:=ha.len;obtain⟨kQ,kx⟩:=ha.exp;have HC:=Lib.hid (fun w (h:Sl w A c (gU a.m)) (ht:Tb w)=>Ch a.neg a.m a.e A c w h hl ae ae ht);rw[ha.canon.Cf]at HC;have n0:=Nc h0;have n1:=Jd h1;clear yp h0 h1;have hE:=((iy.alloc w (.cells #[.bool a.neg,.slice A ((gU a.m).length) c,.int .i64 a.e] 31)).trans (iy.alloc (w.alloc (.cells #[.bool a.neg,.slice A ((gU a.m).length) c,.int .i64 a.e] 31)) (.cells #[.bool b.neg,.slice B ((gU b.m).length) d,.int .i64 b.e] 31))).trans (iy.alloc ((w.alloc (.cells #[.bool a.neg,.slice A ((gU a.m).length) c,.int .i64 a.e] 31)).alloc (.cells #[.bool b.neg,.slice B ((gU b.m).length) d,.int .i64 b.e] 31)) (.cells #[.bool false,.slice none 0 0,.int .i64 0] 31));have b1:=((jg.pt (W:=w) (g:=w.heap.size) aj a.neg A ((gU a.m).length) c a.e).alloc (.cells #[.bool b.neg,.slice B ((gU b.m).length) d,.int .i64 b.e] 31)).alloc (.cells #[.bool false,.slice none 0 0,.int .i64 0] 31);have b2:=(jg.pt (W:=(w.alloc (.cells #[.bool a.neg,.slice A ((gU a.m).length) c,.int .i64 a.e] 31))) (g:=w.heap.size+1) aj b.neg B ((gU b.m).length) d b.e).alloc (.cells #[.bool false,.slice none 0 0,.int .i64 0] 31);have b3:=jg.pt (W:=((w.alloc (.cells #[.bool a.neg,.slice A ((gU a.m).length) c,.int .i64 a.e] 31)).alloc (.cells #[.bool b.neg,.slice B ((gU b.m).length) d,.int .i64 b.e] 31))) (g:=w.heap.size+2) aj false none 0 0 0;replace hs:=hs.below hE;replace kp:=kp.below hE;go_enter Tryz.func190,Tryz.ntmps190;go_wp2_with fail
 (with_reducible refine(HC.out _ hs kp).mono ?_)
 rintro r w1 ⟨A_h4,c_h4,rfl,h4,hb⟩;replace hE:=hE.trans hb;replace hs:=hs.below hb;replace kp:=kp.below hb;replace b1:=b1.ext hb;replace b2:=b2.ext hb;replace b3:=b3.ext hb;clear hb;have Gh:=b3.c0;have yb30:=b3.fr 0;have Gi:=b3.c1;have yb31:=b3.fr 1;have Gj:=b3.c2;have yb32:=b3.fr 2;go_wp2;exact uI (d:=a) rfl rfl rfl rfl (b3.set _ _ _ _ _) rfl (b3.qm h4 _ _ _ _ _) (jg.qc hE ae _ _ _ _ _)
theorem KT(a:Dy)(A:Option Addr)(c:Nat)(w:World)(h:Sl w A c (gU a.m))(ha:a.ib):
 Calls Tryz.prog 130 #[DV a A c] w fun e w'=>e = .returned (.int .i64 a.iu)/\iy w w':=by
 have:=KS a.neg A c (gU a.m) a.e w h ha.vH;rw[jC]at this;exact this
def O6(L:List Nat)(w:World)(v:Value):Prop:=∃ A c,v = .slice A L.length c/\Sl w A c L
theorem amn{fn:Func}{p t:Tmp}(h:fn.results = #[.cell p 31,.tmp t]){a:Act}{w W:World}{k:Int}{g:Nat}
 (hp:a.tmps.getD p undef = .pointer (some ⟨g,0,none⟩)) (ht:a.tmps.getD t undef = .int .i64 k) (hd:a.defers=[]) (hb:jg W g false none 0 0 0) (he:iy w W):
 bodyPost Tryz.prog fn (sN w jx k) .ret a W:=
 uI (d:=jx) h hp ht hd hb (by rw[show jx.m=0 from rfl,nh];rfl) (by rw[show jx.m=0 from rfl,nh];exact Sl.nil _) he
set_option maxRecDepth 100000 in
set_option maxHeartbeats 8000000 in
theorem abS(a b:Dy)(A B:Option Addr)(c d:Nat)(w:World)(hs:Sl w A c (gU a.m))(hr:Sl w B d (gU b.m))(kp:Tb w)(ha:a.ib)(hb:b.ib)(a0:a.m≠0)(b0:b.m≠0):
  Calls Tryz.prog 190 #[DV a A c,DV b B d] w (sN w (kC (iI a b)) (mI (iI a b))):=by
 have n1:=Jd a0;have n2:=Jd b0;have la:=ha.len;have lb:=hb.len;obtain⟨ea1,ea2⟩:=ha.exp;obtain⟨eb1,eb2⟩:=hb.exp;obtain⟨k,hk⟩:∃ k,min a.e b.e=k:=⟨_,rfl⟩
 have SX:k<=a.e:= ae ;have SY:k<=b.e:= ae ;have oe:-16384<=k:= ae ;have sD:k<=16384:= ae ;have HTa:=Lib.hid (fun w (h:Sl w A c (gU a.m))=>KT a A c w h ha);have HTb:=Lib.hid (fun w (h:Sl w B d (gU b.m))=>KT b B d w h hb);have HBIG:=Lib.hid (fun h1 h2=>akO ha hb a0 b0 hk h1 h2);have HFIT:=Lib.hid (fun h=>akQ ha hb a0 b0 hk h);have HS1:=Lib.hid (fun(h:a.neg=b.neg)=>show iI a b=canon a.neg (a.m*2^(a.e-k).toNat+b.m*2^(b.e-k).toNat) k from by
  have:=XF (s:=a.neg) a0 b0 hk;rw[<-this,show(⟨a.neg,b.m,b.e⟩:Dy)=b by rw[h]])
 have HS2:=Lib.hid (fun(h:a.neg≠b.neg) (pO:b.m*2^(b.e-k).toNat<=a.m*2^(a.e-k).toNat)=>XD a0 b0 hk h pO);have HS3:=Lib.hid (fun(h:a.neg≠b.neg) (pO:a.m*2^(a.e-k).toNat<b.m*2^(b.e-k).toNat)=>XE a0 b0 hk h pO);have CT:-16384<=a.iu/\a.iu<=16384:=by unfold Dy.iu;rw[aQ a0];have:=ha.XX a0;omega
 have htb:-16384<=b.iu/\b.iu<=16384:=by unfold Dy.iu;rw[aQ b0];have:=hb.XX b0;omega
 obtain⟨amA,amB⟩:=CT;obtain⟨amC,amD⟩:=htb;obtain⟨S,hS⟩:∃ S,iI a b=S:=⟨_,rfl⟩
 rw[hS]at HBIG HS1 ⊢;have HS2:=Lib.hid (fun h h'=>hS▸HS2.out h h');have HS3:=Lib.hid (fun h h'=>hS▸HS3.out h h');have HXa:=Lib.hid (fun w (h:Sl w A c (gU a.m)) (hf:(gU (a.m*2^(a.e-k).toNat)).length<=256)=>JB A c (gU a.m) (a.e-k) w h la ae ae (by rw[jC];exact hf));have HXb:=Lib.hid (fun w (h:Sl w B d (gU b.m)) (hf:(gU (b.m*2^(b.e-k).toNat)).length<=256)=>JB B d (gU b.m) (b.e-k) w h lb ae ae (by rw[jC];exact hf));rw[jC]at HXa HXb;generalize a.m*2^(a.e-k).toNat=x at *
 generalize b.m*2^(b.e-k).toNat=y at *
 generalize a.iu=ta at *
 generalize b.iu=tb at *
 obtain⟨mx,S5⟩:∃ mx,max ta tb=mx:=⟨_,rfl⟩
 have Im:-16384<=mx/\mx<=16384:= ae ;obtain⟨Im,uW⟩:=Im;rw[S5]at HBIG HFIT;have aeb:=kp;have tS:=hs;have wa:=hr;clear a0 b0 hS;have hE:=((iy.alloc w (.cells #[.bool a.neg,.slice A ((gU a.m).length) c,.int .i64 a.e] 31)).trans (iy.alloc (w.alloc (.cells #[.bool a.neg,.slice A ((gU a.m).length) c,.int .i64 a.e] 31)) (.cells #[.bool b.neg,.slice B ((gU b.m).length) d,.int .i64 b.e] 31))).trans (iy.alloc ((w.alloc (.cells #[.bool a.neg,.slice A ((gU a.m).length) c,.int .i64 a.e] 31)).alloc (.cells #[.bool b.neg,.slice B ((gU b.m).length) d,.int .i64 b.e] 31)) (.cells #[.bool false,.slice none 0 0,.int .i64 0] 31));have b1:=((jg.pt (W:=w) (g:=w.heap.size) aj a.neg A ((gU a.m).length) c a.e).alloc (.cells #[.bool b.neg,.slice B ((gU b.m).length) d,.int .i64 b.e] 31)).alloc (.cells #[.bool false,.slice none 0 0,.int .i64 0] 31);have b2:=(jg.pt (W:=(w.alloc (.cells #[.bool a.neg,.slice A ((gU a.m).length) c,.int .i64 a.e] 31))) (g:=w.heap.size+1) aj b.neg B ((gU b.m).length) d b.e).alloc (.cells #[.bool false,.slice none 0 0,.int .i64 0] 31);have b3:=jg.pt (W:=((w.alloc (.cells #[.bool a.neg,.slice A ((gU a.m).length) c,.int .i64 a.e] 31)).alloc (.cells #[.bool b.neg,.slice B ((gU b.m).length) d,.int .i64 b.e] 31))) (g:=w.heap.size+2) aj false none 0 0 0;replace hs:=hs.below hE;replace hr:=hr.below hE;replace kp:=kp.below hE;go_enter Tryz.func190,Tryz.ntmps190;have nN:=b1.c0;have nO:=b1.c1;have nP:=b1.c2
 have sj:=b2.c0;have sk:=b2.c1;have sn:=b2.c2;go_upto_region 6 with fail;clear nN nO nP sj sk sn;obtain⟨W1,hW⟩:∃ W,(((w.alloc (.cells #[.bool a.neg,.slice A ((gU a.m).length) c,.int .i64 a.e] 31)).alloc (.cells #[.bool b.neg,.slice B ((gU b.m).length) d,.int .i64 b.e] 31)).alloc (.cells #[.bool false,.slice none 0 0,.int .i64 0] 31))=W:=⟨_,rfl⟩
 rw[hW]at hs hr kp b1 b2 b3 hE ⊢;clear hW;go_cut [7,8] (fun s0 s1 wx=>s0=(.int .i64 ta)/\s1=(.int .i64 tb)/\iy W1 wx)
 case first=>
  have b1':=b1.drew;have b2':=b2.drew;have mJ:=hs.drew;have rF:=hr.drew;go_region_held3 (fun w'=>w'.cell? ⟨w.heap.size,0,none⟩=some (.bool a.neg)/\w'.cell? ⟨w.heap.size,1,none⟩=some (.slice A ((gU a.m).length) c)/\w'.cell? ⟨w.heap.size,2,none⟩=some (.int .i64 a.e)/\w'.cell? ⟨w.heap.size+1,0,none⟩=some (.bool b.neg)/\w'.cell? ⟨w.heap.size+1,1,none⟩=some (.slice B ((gU b.m).length) d)/\w'.cell? ⟨w.heap.size+1,2,none⟩=some (.int .i64 b.e))
   (first|with_reducible exact⟨(b1').c0,(b1').c1,(b1').c2,(b2').c0,(b2').c1,(b2').c2⟩|with_reducible exact⟨(b1'.ext jI).c0,(b1'.ext jI).c1,(b1'.ext jI).c2,(b2'.ext jI).c0,(b2'.ext jI).c1,(b2'.ext jI).c2⟩|with_reducible exact⟨(b1'.ext iZ).c0,(b1'.ext iZ).c1,(b1'.ext iZ).c2,(b2'.ext iZ).c0,(b2'.ext iZ).c1,(b2'.ext iZ).c2⟩|with_reducible exact⟨(b1'.ext (jI.trans iZ)).c0,(b1'.ext (jI.trans iZ)).c1,(b1'.ext (jI.trans iZ)).c2,(b2'.ext (jI.trans iZ)).c0,(b2'.ext (jI.trans iZ)).c1,(b2'.ext (jI.trans iZ)).c2⟩|with_reducible exact⟨(b1'.ext (iZ.trans jI)).c0,(b1'.ext (iZ.trans jI)).c1,(b1'.ext (iZ.trans jI)).c2,(b2'.ext (iZ.trans jI)).c0,(b2'.ext (iZ.trans jI)).c1,(b2'.ext (iZ.trans jI)).c2⟩)
   (first
    | (go_at_call_of 130 (Value.agg #[.bool a.neg,.slice A (gU a.m).length c,.int .i64 a.e]);(first|(with_reducible refine(HTa.out _ mJ).mono ?_)|(with_reducible refine(HTa.out _ (mJ.below iZ)).mono ?_));rintro r wx0 ⟨rfl,jI⟩)
    | (go_at_call_of 130 (Value.agg #[.bool b.neg,.slice B (gU b.m).length d,.int .i64 b.e]);(first|(with_reducible refine(HTb.out _ rF).mono ?_)|(with_reducible refine(HTb.out _ (rF.below jI)).mono ?_));rintro r wx1 ⟨rfl,iZ⟩))
  all_goals (go_wp2_with fail;go_meet;(first|exact⟨rfl,rfl,(iy.drew _).trans (jI.trans iZ)⟩|exact⟨rfl,rfl,(iy.drew _).trans (iZ.trans jI)⟩))
 obtain⟨rfl,rfl,hb⟩:=hcut;replace hE:=hE.trans hb;replace hs:=hs.below hb;replace hr:=hr.below hb;replace kp:=kp.below hb;replace b1:=b1.ext hb;replace b2:=b2.ext hb;replace b3:=b3.ext hb;clear hb;go_upto_region 7 with fail;go_cut [63] (fun s wx=>s = .bool (decide (4097<mx-k/\(1<ta-tb\/1<tb-ta)))/\wx=wc)
 case first=>
  by_cases c1:4097<mx-k
  .by_cases c2:1<ta-tb
   .go_wp2
    go_meet;exact⟨congrArg Value.bool (aS ⟨c1,.inl c2⟩).symm,rfl⟩
   .by_cases c3:1<tb-ta
    .go_wp2
     go_meet;exact⟨congrArg Value.bool (aS ⟨c1,.inr c3⟩).symm,rfl⟩
    .go_wp2
     go_meet;exact⟨congrArg Value.bool (aT ae).symm,rfl⟩
  .go_wp2
   go_meet;exact⟨congrArg Value.bool (aT ae).symm,rfl⟩
 obtain⟨rfl,hwc⟩:=hcut;subst hwc;by_cases hB:4097<mx-k/\(1<ta-tb\/1<tb-ta)
 .have hd:decide (4097<mx-k/\(1<ta-tb\/1<tb-ta))=true:=aS hB
  have mr:=Lib.hid (HBIG.out hB.1 hB.2);rw[hd];clear hB hd;have Gh:=b3.c0;have yb30:=b3.fr 0;have Gi:=b3.c1;have yb31:=b3.fr 1;have Gj:=b3.c2;have yb32:=b3.fr 2;go_wp2;rw[KD mr.out,GR mr.out];exact amn rfl rfl rfl rfl (b3.set _ _ _ _ _) (jg.qc hE ae _ _ _ _ _)
 .have hd:decide (4097<mx-k/\(1<ta-tb\/1<tb-ta))=false:=aT hB
  obtain⟨we,Mr⟩:=HFIT.out hB;have HXY:=Lib.hid (EZ (k:=129) (aX (ZX we Mr) ag));have qW:=EZ (k:=129) (aX we ag);have IG:=EZ (k:=129) (aX Mr ag);have HXa2:=Lib.hid (fun w h=>HXa.out w h ae);have HXb2:=Lib.hid (fun w h=>HXb.out w h ae);rw[hd];clear hB hd we Mr S5 HBIG HFIT HXa HXb HTa HTb;have Mp:IntKind.i64.wrap (a.e-k)=a.e-k:=i64_in _ ae ae;have hwf:IntKind.i64.wrap (b.e-k)=b.e-k:=i64_in _ ae ae;have nN:=b1.c0;have nO:=b1.c1;have nP:=b1.c2;have sj:=b2.c0;have sk:=b2.c1;have sn:=b2.c2;go_upto_region 9 with fail;clear nN nO nP sj sk sn;go_cut [9,10] (fun s0 s1 wx=>O6 ((gU x)) wx s0/\O6 ((gU y)) wx s1/\iy wc wx)
  case first=>
   have b1':=b1.drew;have b2':=b2.drew;have mJ:=hs.drew;have rF:=hr.drew;go_region_held3 (fun w'=>w'.cell? ⟨w.heap.size,0,none⟩=some (.bool a.neg)/\w'.cell? ⟨w.heap.size,1,none⟩=some (.slice A ((gU a.m).length) c)/\w'.cell? ⟨w.heap.size,2,none⟩=some (.int .i64 a.e)/\w'.cell? ⟨w.heap.size+1,0,none⟩=some (.bool b.neg)/\w'.cell? ⟨w.heap.size+1,1,none⟩=some (.slice B ((gU b.m).length) d)/\w'.cell? ⟨w.heap.size+1,2,none⟩=some (.int .i64 b.e))
    (first|with_reducible exact⟨(b1').c0,(b1').c1,(b1').c2,(b2').c0,(b2').c1,(b2').c2⟩|with_reducible exact⟨(b1'.ext jI).c0,(b1'.ext jI).c1,(b1'.ext jI).c2,(b2'.ext jI).c0,(b2'.ext jI).c1,(b2'.ext jI).c2⟩|with_reducible exact⟨(b1'.ext iZ).c0,(b1'.ext iZ).c1,(b1'.ext iZ).c2,(b2'.ext iZ).c0,(b2'.ext iZ).c1,(b2'.ext iZ).c2⟩|with_reducible exact⟨(b1'.ext (jI.trans iZ)).c0,(b1'.ext (jI.trans iZ)).c1,(b1'.ext (jI.trans iZ)).c2,(b2'.ext (jI.trans iZ)).c0,(b2'.ext (jI.trans iZ)).c1,(b2'.ext (jI.trans iZ)).c2⟩|with_reducible exact⟨(b1'.ext (iZ.trans jI)).c0,(b1'.ext (iZ.trans jI)).c1,(b1'.ext (iZ.trans jI)).c2,(b2'.ext (iZ.trans jI)).c0,(b2'.ext (iZ.trans jI)).c1,(b2'.ext (iZ.trans jI)).c2⟩)
    (first
     | (go_at_call_of 132 (Value.slice A (gU a.m).length c);(first|(with_reducible refine(HXa2.out _ mJ).mono ?_)|(with_reducible refine(HXa2.out _ (mJ.below iZ)).mono ?_));rintro r wx0 ⟨A0,c0,rfl,pH,jI⟩)
     | (go_at_call_of 132 (Value.slice B (gU b.m).length d);(first|(with_reducible refine(HXb2.out _ rF).mono ?_)|(with_reducible refine(HXb2.out _ (rF.below jI)).mono ?_));rintro r wx1 ⟨A1,c1,rfl,rD,iZ⟩))
   all_goals (go_wp2_with fail;go_meet;(first|exact⟨⟨_,_,rfl,pH.below iZ⟩,⟨_,_,rfl,rD⟩,(iy.drew _).trans (jI.trans iZ)⟩|exact⟨⟨_,_,rfl,pH⟩,⟨_,_,rfl,rD.below jI⟩,(iy.drew _).trans (iZ.trans jI)⟩))
  obtain⟨⟨A_hx,c_hx,rfl,hx⟩,⟨A_hy,c_hy,rfl,hy⟩,hb⟩:=hcut;replace hE:=hE.trans hb;replace hs:=hs.below hb;replace hr:=hr.below hb;replace kp:=kp.below hb;replace b1:=b1.ext hb;replace b2:=b2.ext hb;replace b3:=b3.ext hb;clear hb;have HA:=Lib.hid (fun w A c B d (h:Sl w A c (gU x)) (k:Sl w B d (gU y))=>US A B c d (gU x) (gU y) w h k ae ae (by rw[jC,jC];exact aX HXY.out ag));rw[jC,jC]at HA;by_cases hn:a.neg=b.neg
  .have e1:(a.neg==b.neg)=true:=by rw[hn];exact beq_self_eq_true _
   have hD:=Lib.hid (HS1.out hn);have HO:=Lib.hid (fun w A c (h:Sl w A c (gU (x+y))) (ht:Tb w)=>Ch a.neg (x+y) k A c w h (aX HXY.out ag) ae ae ht);clear hn;have Bc:=Ky a.neg (x+y) k HXY.out;have HK:=Lib.hid (fun w A c (h:Sl w A c (gU (canon a.neg (x+y) k).m))=>GQ (canon a.neg (x+y) k) A c w h ae ae ae);generalize canon a.neg (x+y) k=D at *
   clear Bc HS1 HS2 HS3;have nN:=b1.c0;have nO:=b1.c1;have nP:=b1.c2;have sj:=b2.c0;have sk:=b2.c1;have sn:=b2.c2;go_wp2_with fail
   (with_reducible refine(HA.out _ _ _ _ _ hx hy).mono ?_)
   rintro r w2 ⟨A3,c3,rfl,h3,hb⟩;clear nN nO nP sj sk sn;replace hE:=hE.trans hb;replace hs:=hs.below hb;replace hr:=hr.below hb;replace kp:=kp.below hb;replace hx:=hx.below hb;replace hy:=hy.below hb;replace b1:=b1.ext hb;replace b2:=b2.ext hb;replace b3:=b3.ext hb;clear hb;have nN:=b1.c0;have nO:=b1.c1;have nP:=b1.c2;go_wp2_with fail
   (with_reducible refine(HO.out _ _ _ h3 kp).mono ?_)
   rintro r w3 ⟨A_h4,c_h4,rfl,h4,hb⟩;clear nN nO nP;replace hE:=hE.trans hb;replace hs:=hs.below hb;replace hr:=hr.below hb;replace kp:=kp.below hb;replace hx:=hx.below hb;replace hy:=hy.below hb;replace h3:=h3.below hb;replace b1:=b1.ext hb;replace b2:=b2.ext hb;replace b3:=b3.ext hb;clear hb;have nN:=b1.c0;have nO:=b1.c1;have nP:=b1.c2;go_wp2_with fail
   (with_reducible refine(HK.out _ _ _ h4).mono ?_)
   rintro r w4 ⟨A_h5,c_h5,rfl,h5,hb⟩;clear nN nO nP;replace hE:=hE.trans hb;replace hs:=hs.below hb;replace hr:=hr.below hb;replace kp:=kp.below hb;replace hx:=hx.below hb;replace hy:=hy.below hb;replace h3:=h3.below hb;replace h4:=h4.below hb;replace b1:=b1.ext hb;replace b2:=b2.ext hb;replace b3:=b3.ext hb;clear hb;have Gh:=b3.c0;have yb30:=b3.fr 0;have Gi:=b3.c1;have yb31:=b3.fr 1;have Gj:=b3.c2;have yb32:=b3.fr 2;go_wp2;rw[hD.out];exact uI (d:=(kC D)) rfl rfl rfl rfl (b3.set _ _ _ _ _) rfl (b3.qm h5 _ _ _ _ _) (jg.qc hE ae _ _ _ _ _)
  .have e1:(a.neg==b.neg)=false:=aJ hn
   have HC:=Lib.hid (fun w A c B d (h:Sl w A c (gU x)) (k:Sl w B d (gU y))=>Ff A B c d (gU x) (gU y) w h k ae ae);rw[jC,jC]at HC;by_cases iD:x<y
   .have hD:=Lib.hid (HS3.out hn iD)
    have d0:decide (jY x y<0)=true:=by unfold jY;rw[aR iD];rfl
    have HSb:=Lib.hid (fun w A c B d (h:Sl w A c (gU y)) (k:Sl w B d (gU x))=>Na A B c d (gU y) (gU x) w h k ae ae (by rw[jC,jC];omega));rw[jC,jC]at HSb;have CY:=aX (lW (dj y x)) IG;have HO:=Lib.hid (fun w A c (h:Sl w A c (gU (y-x))) (ht:Tb w)=>Ch b.neg (y-x) k A c w h ae ae ae ht);have Bc:=Ky b.neg (y-x) k CY;have HK:=Lib.hid (fun w A c (h:Sl w A c (gU (canon b.neg (y-x) k).m))=>GQ (canon b.neg (y-x) k) A c w h ae ae ae);generalize canon b.neg (y-x) k=D at *
    generalize jY x y=q at *
    clear Bc HS1 HS2 HS3 hn iD CY HA;have nN:=b1.c0;have nO:=b1.c1;have nP:=b1.c2;have sj:=b2.c0;have sk:=b2.c1;have sn:=b2.c2;go_wp2_with fail
    (with_reducible refine(HC.out _ _ _ _ _ hx hy).mono ?_)
    rintro r w2 ⟨rfl,hb⟩;clear nN nO nP sj sk sn;replace hE:=hE.trans hb;replace hs:=hs.below hb;replace hr:=hr.below hb;replace kp:=kp.below hb;replace hx:=hx.below hb;replace hy:=hy.below hb;replace b1:=b1.ext hb;replace b2:=b2.ext hb;replace b3:=b3.ext hb;clear hb;have Bg:w.heap.size<=w.heap.size:=aU _;have nN:=b1.c0;have nO:=b1.c1;have nP:=b1.c2;have sj:=b2.c0;have sk:=b2.c1;have sn:=b2.c2;have fb0:=b1.fr 0;have fb1:=b1.fr 1;have fb2:=b1.fr 2;have hx:=b1.qm hx b.neg b.e (gU b.m).length d B;have hy:=b1.qm hy b.neg b.e (gU b.m).length d B;have hE:=jg.qc hE (aU _) b.neg B (gU b.m).length d b.e;have b3:=b3.wO (g':=w.heap.size) ae (.bool b.neg) (.slice B (gU b.m).length d) (.int .i64 b.e);have b1:=b1.set b.neg B (gU b.m).length d b.e;have kp:=aeb.below hE;clear hs hr b2;go_wp2_with fail
    (with_reducible refine(HSb.out _ _ _ _ _ hy hx).mono ?_)
    rintro r w3 ⟨A3,c3,rfl,h3,hb⟩;clear nN nO nP sj sk sn;replace hE:=hE.trans hb;replace kp:=kp.below hb;replace hx:=hx.below hb;replace hy:=hy.below hb;replace b1:=b1.ext hb;replace b3:=b3.ext hb;clear hb;have nN:=b1.c0;have nO:=b1.c1;have nP:=b1.c2;go_wp2_with fail
    (with_reducible refine(HO.out _ _ _ h3 kp).mono ?_)
    rintro r w4 ⟨A_h4,c_h4,rfl,h4,hb⟩;clear nN nO nP;replace hE:=hE.trans hb;replace kp:=kp.below hb;replace hx:=hx.below hb;replace hy:=hy.below hb;replace h3:=h3.below hb;replace b1:=b1.ext hb;replace b3:=b3.ext hb;clear hb;have nN:=b1.c0;have nO:=b1.c1;have nP:=b1.c2;go_wp2_with fail
    (with_reducible refine(HK.out _ _ _ h4).mono ?_)
    rintro r w5 ⟨A_h5,c_h5,rfl,h5,hb⟩;clear nN nO nP;replace hE:=hE.trans hb;replace kp:=kp.below hb;replace hx:=hx.below hb;replace hy:=hy.below hb;replace h3:=h3.below hb;replace h4:=h4.below hb;replace b1:=b1.ext hb;replace b3:=b3.ext hb;clear hb;have Gh:=b3.c0;have yb30:=b3.fr 0;have Gi:=b3.c1;have yb31:=b3.fr 1;have Gj:=b3.c2;have yb32:=b3.fr 2;go_wp2;rw[hD.out];exact uI (d:=(kC D)) rfl rfl rfl rfl (b3.set _ _ _ _ _) rfl (b3.qm h5 _ _ _ _ _) (jg.qc hE ae _ _ _ _ _)
   .have hD:=Lib.hid (HS2.out hn ae)
    have d0:decide (jY x y<0)=false:=by unfold jY;rw[aQ iD];split<;>rfl
    have HSb:=Lib.hid (fun w A c B d (h:Sl w A c (gU x)) (k:Sl w B d (gU y))=>Na A B c d (gU x) (gU y) w h k ae ae (by rw[jC,jC];omega));rw[jC,jC]at HSb;have CY:=aX (lW (dj x y)) qW;have HO:=Lib.hid (fun w A c (h:Sl w A c (gU (x-y))) (ht:Tb w)=>Ch a.neg (x-y) k A c w h ae ae ae ht);have Bc:=Ky a.neg (x-y) k CY;have HK:=Lib.hid (fun w A c (h:Sl w A c (gU (canon a.neg (x-y) k).m))=>GQ (canon a.neg (x-y) k) A c w h ae ae ae);generalize canon a.neg (x-y) k=D at *
    generalize jY x y=q at *
    clear Bc HS1 HS2 HS3 hn iD CY HA;have nN:=b1.c0;have nO:=b1.c1;have nP:=b1.c2;have sj:=b2.c0;have sk:=b2.c1;have sn:=b2.c2;go_wp2_with fail
    (with_reducible refine(HC.out _ _ _ _ _ hx hy).mono ?_)
    rintro r w2 ⟨rfl,hb⟩;clear nN nO nP sj sk sn;replace hE:=hE.trans hb;replace hs:=hs.below hb;replace hr:=hr.below hb;replace kp:=kp.below hb;replace hx:=hx.below hb;replace hy:=hy.below hb;replace b1:=b1.ext hb;replace b2:=b2.ext hb;replace b3:=b3.ext hb;clear hb;go_wp2_with fail
    (with_reducible refine(HSb.out _ _ _ _ _ hx hy).mono ?_)
    rintro r w3 ⟨A3,c3,rfl,h3,hb⟩;replace hE:=hE.trans hb;replace hs:=hs.below hb;replace hr:=hr.below hb;replace kp:=kp.below hb;replace hx:=hx.below hb;replace hy:=hy.below hb;replace b1:=b1.ext hb;replace b2:=b2.ext hb;replace b3:=b3.ext hb;clear hb;have nN:=b1.c0;have nO:=b1.c1;have nP:=b1.c2;go_wp2_with fail
    (with_reducible refine(HO.out _ _ _ h3 kp).mono ?_)
    rintro r w4 ⟨A_h4,c_h4,rfl,h4,hb⟩;clear nN nO nP;replace hE:=hE.trans hb;replace hs:=hs.below hb;replace hr:=hr.below hb;replace kp:=kp.below hb;replace hx:=hx.below hb;replace hy:=hy.below hb;replace h3:=h3.below hb;replace b1:=b1.ext hb;replace b2:=b2.ext hb;replace b3:=b3.ext hb;clear hb;have nN:=b1.c0;have nO:=b1.c1;have nP:=b1.c2;go_wp2_with fail
    (with_reducible refine(HK.out _ _ _ h4).mono ?_)
    rintro r w5 ⟨A_h5,c_h5,rfl,h5,hb⟩;clear nN nO nP;replace hE:=hE.trans hb;replace hs:=hs.below hb;replace hr:=hr.below hb;replace kp:=kp.below hb;replace hx:=hx.below hb;replace hy:=hy.below hb;replace h3:=h3.below hb;replace h4:=h4.below hb;replace b1:=b1.ext hb;replace b2:=b2.ext hb;replace b3:=b3.ext hb;clear hb;have Gh:=b3.c0;have yb30:=b3.fr 0;have Gi:=b3.c1;have yb31:=b3.fr 1;have Gj:=b3.c2;have yb32:=b3.fr 2;go_wp2;rw[hD.out];exact uI (d:=(kC D)) rfl rfl rfl rfl (b3.set _ _ _ _ _) rfl (b3.qm h5 _ _ _ _ _) (jg.qc hE ae _ _ _ _ _)
theorem Q9(a b:Dy)(A B:Option Addr)(c d:Nat)(w:World)(hs:Sl w A c (gU a.m))(hr:Sl w B d (gU b.m))(kp:Tb w)(ha:a.ib)(hb:b.ib):
 Calls Tryz.prog 190 #[DV a A c,DV b B d] w (sN w (kC (iI a b)) (mI (iI a b))):=by
 by_cases a0:a.m=0
 .exact abQ a b A B c d w hs hr kp hb a0
 .by_cases b0:b.m=0
  .exact abR a b A B c d w hs kp ha a0 b0
  .exact abS a b A B c d w hs hr kp ha hb a0 b0
theorem Q6(a : Dy)(A : Option Addr)(c : Nat)(w : World)(hs : Sl w A c (gU a.m))(ha : a.ib):
    Calls Tryz.prog 191 #[DV a A c] w (tv w (iF a)) := by
  have HV := Lib.hid (fun w (h : Sl w A c (gU a.m)) => Ha a A c w h ha);have hl := ha.len;by_cases h0 : a.m=0
  . have hz : Hid (iF a=jx) := by
      show iF a=jx;obtain⟨s,m,e⟩ := a;rcases ha.canon with⟨h1,h2,h3⟩|h1
      . simp only at h1 h2 h3;subst h1 h2 h3;rfl
      . simp only at h0 h1;omega
    have n0 := Nc h0;clear h0;have hE := (iy.alloc w (.cells #[.bool a.neg,.slice A ((gU a.m).length) c,.int .i64 a.e] 31)).trans (iy.alloc (w.alloc (.cells #[.bool a.neg,.slice A ((gU a.m).length) c,.int .i64 a.e] 31)) (.cells #[.bool false,.slice none 0 0,.int .i64 0] 31));have b1 := (jg.pt (W := w) (g := w.heap.size) aj a.neg A ((gU a.m).length) c a.e).alloc (.cells #[.bool false,.slice none 0 0,.int .i64 0] 31);have b2 := jg.pt (W := (w.alloc (.cells #[.bool a.neg,.slice A ((gU a.m).length) c,.int .i64 a.e] 31))) (g := w.heap.size+1) aj false none 0 0 0;replace hs := hs.below hE;go_enter Tryz.func191,Tryz.ntmps191;go_wp2_with fail
    (with_reducible refine(HV.out _ hs).mono ?_)
    rintro r w1 ⟨rfl,hb⟩;replace hE := hE.trans hb;replace hs := hs.below hb;replace b1 := b1.ext hb;replace b2 := b2.ext hb;clear hb;have nN := b1.c0;have nO := b1.c1;have nP := b1.c2;have sj := b2.c0;have yb20 := b2.fr 0;have sk := b2.c1;have yb21 := b2.fr 1;have sn := b2.c2;have yb22 := b2.fr 2;go_wp2;rw[hz.out];exact sx (d := jx) rfl rfl rfl (b2.set _ _ _ _ _) (by rw[show jx.m=0 from rfl,nh];rfl) (by rw[show jx.m=0 from rfl,nh];exact Sl.nil _) (jg.qc hE ae _ _ _ _ _)
  . have n0 := Jd h0
    have HN := Lib.hid (show iF a=⟨!a.neg,a.m,a.e⟩by unfold iF;simp[h0]);have HC := Lib.hid (fun w (h : Sl w A c (gU a.m)) => KF A c (gU a.m) w h ae);clear h0;have hE := (iy.alloc w (.cells #[.bool a.neg,.slice A ((gU a.m).length) c,.int .i64 a.e] 31)).trans (iy.alloc (w.alloc (.cells #[.bool a.neg,.slice A ((gU a.m).length) c,.int .i64 a.e] 31)) (.cells #[.bool false,.slice none 0 0,.int .i64 0] 31));have b1 := (jg.pt (W := w) (g := w.heap.size) aj a.neg A ((gU a.m).length) c a.e).alloc (.cells #[.bool false,.slice none 0 0,.int .i64 0] 31);have b2 := jg.pt (W := (w.alloc (.cells #[.bool a.neg,.slice A ((gU a.m).length) c,.int .i64 a.e] 31))) (g := w.heap.size+1) aj false none 0 0 0;replace hs := hs.below hE;go_enter Tryz.func191,Tryz.ntmps191;go_wp2_with fail
    (with_reducible refine(HV.out _ hs).mono ?_)
    rintro r w1 ⟨rfl,hb⟩;replace hE := hE.trans hb;replace hs := hs.below hb;replace b1 := b1.ext hb;replace b2 := b2.ext hb;clear hb;have nN := b1.c0;have nO := b1.c1;have nP := b1.c2;clear nN nO nP;have nN := b1.c0;have nO := b1.c1;have nP := b1.c2;go_wp2_with fail;clear nN nO nP;replace hs := hs.drew;replace b1 := b1.drew;replace b2 := b2.drew;replace hE := hE.trans (iy.drew _);go_region_held3 (fun w' => w'.cell? ⟨w.heap.size,0,none⟩=some (.bool a.neg)/\w'.cell? ⟨w.heap.size,1,none⟩=some (.slice A ((gU a.m).length) c)/\w'.cell? ⟨w.heap.size,2,none⟩=some (.int .i64 a.e))
      (first|with_reducible exact⟨(b1).c0,(b1).c1,(b1).c2⟩|with_reducible exact⟨(b1.ext jI).c0,(b1.ext jI).c1,(b1.ext jI).c2⟩|with_reducible exact⟨((b1.ext jI).wO (g' := w.heap.size+1) ae _ _ _).c0,((b1.ext jI).wO (g' := w.heap.size+1) ae _ _ _).c1,((b1.ext jI).wO (g' := w.heap.size+1) ae _ _ _).c2⟩)
      (first
        | (go_at_call 129
           (with_reducible refine(HC.out _ hs).mono ?_)
           rintro r wx0 ⟨A_h4,c_h4,rfl,h4,jI⟩;have bz := b2.ext jI;have z0 := bz.c0;have z1 := bz.c1;have z2 := bz.c2;have y0 := bz.fr 0;have y1 := bz.fr 1;have y2 := bz.fr 2))
    replace hE := hE.trans jI;replace hs := hs.below jI;replace b1 := b1.ext jI;replace b2 := b2.ext jI;go_wp2;rw[HN.out];exact sx (d := ⟨!a.neg,a.m,a.e⟩) rfl rfl rfl (bz.set _ _ _ _ _) rfl (bz.qm h4 _ _ _ _ _) (jg.qc hE ae _ _ _ _ _)
theorem abP(a b : Dy)(A B : Option Addr)(c d : Nat)(w : World)(hs : Sl w A c (gU a.m))(hr : Sl w B d (gU b.m))(kp : Tb w)(ha : a.ib)(hb : b.ib):
    Calls Tryz.prog 156 #[DV a A c,DV b B d] w (sN w (kC (iI a (iF b))) (mI (iI a (iF b)))) := by
  have HVa := Lib.hid (fun w (h : Sl w A c (gU a.m)) => Ha a A c w h ha);have HVb := Lib.hid (fun w (h : Sl w B d (gU b.m)) => Ha b B d w h hb);have HN := Lib.hid (fun w (h : Sl w B d (gU b.m)) => Q6 b B d w h hb);have HS := Lib.hid (fun w B d (h : Sl w A c (gU a.m)) (k : Sl w B d (gU (iF b).m)) (ht : Tb w) => Q9 a (iF b) A B c d w h k ht ha (qj hb));generalize mI (iI a (iF b))=E at *
  generalize kC (iI a (iF b))=D at *
  generalize iF b=nb at *
  have hE := ((iy.alloc w (.cells #[.bool a.neg,.slice A ((gU a.m).length) c,.int .i64 a.e] 31)).trans (iy.alloc (w.alloc (.cells #[.bool a.neg,.slice A ((gU a.m).length) c,.int .i64 a.e] 31)) (.cells #[.bool b.neg,.slice B ((gU b.m).length) d,.int .i64 b.e] 31))).trans (iy.alloc ((w.alloc (.cells #[.bool a.neg,.slice A ((gU a.m).length) c,.int .i64 a.e] 31)).alloc (.cells #[.bool b.neg,.slice B ((gU b.m).length) d,.int .i64 b.e] 31)) (.cells #[.bool false,.slice none 0 0,.int .i64 0] 31));have b1 := ((jg.pt (W := w) (g := w.heap.size) aj a.neg A ((gU a.m).length) c a.e).alloc (.cells #[.bool b.neg,.slice B ((gU b.m).length) d,.int .i64 b.e] 31)).alloc (.cells #[.bool false,.slice none 0 0,.int .i64 0] 31);have b2 := (jg.pt (W := (w.alloc (.cells #[.bool a.neg,.slice A ((gU a.m).length) c,.int .i64 a.e] 31))) (g := w.heap.size+1) aj b.neg B ((gU b.m).length) d b.e).alloc (.cells #[.bool false,.slice none 0 0,.int .i64 0] 31);have b3 := jg.pt (W := ((w.alloc (.cells #[.bool a.neg,.slice A ((gU a.m).length) c,.int .i64 a.e] 31)).alloc (.cells #[.bool b.neg,.slice B ((gU b.m).length) d,.int .i64 b.e] 31))) (g := w.heap.size+2) aj false none 0 0 0;replace hs := hs.below hE;replace hr := hr.below hE;replace kp := kp.below hE;go_enter Tryz.func156,Tryz.ntmps156;go_wp2_with fail
  (with_reducible refine(HVa.out _ hs).mono ?_)
  rintro r w1 ⟨rfl,hb⟩;replace hE := hE.trans hb;replace hs := hs.below hb;replace hr := hr.below hb;replace kp := kp.below hb;replace b1 := b1.ext hb;replace b2 := b2.ext hb;replace b3 := b3.ext hb;clear hb;have nN := b1.c0;have nO := b1.c1;have nP := b1.c2;have sj := b2.c0;have sk := b2.c1;have sn := b2.c2;go_wp2_with fail
  (with_reducible refine(HVb.out _ hr).mono ?_)
  rintro r w2 ⟨rfl,hb⟩;clear nN nO nP sj sk sn;replace hE := hE.trans hb;replace hs := hs.below hb;replace hr := hr.below hb;replace kp := kp.below hb;replace b1 := b1.ext hb;replace b2 := b2.ext hb;replace b3 := b3.ext hb;clear hb;have nN := b1.c0;have nO := b1.c1;have nP := b1.c2;have sj := b2.c0;have sk := b2.c1;have sn := b2.c2;go_wp2_with fail;clear nN nO nP sj sk sn;replace hs := hs.drew;replace hr := hr.drew;replace kp := kp.drew;replace b1 := b1.drew;replace b2 := b2.drew;replace b3 := b3.drew;replace hE := hE.trans (iy.drew _);go_region_held3 (fun w' => w'.cell? ⟨w.heap.size,0,none⟩=some (.bool a.neg)/\w'.cell? ⟨w.heap.size,1,none⟩=some (.slice A ((gU a.m).length) c)/\w'.cell? ⟨w.heap.size,2,none⟩=some (.int .i64 a.e)/\w'.cell? ⟨w.heap.size+1,0,none⟩=some (.bool b.neg)/\w'.cell? ⟨w.heap.size+1,1,none⟩=some (.slice B ((gU b.m).length) d)/\w'.cell? ⟨w.heap.size+1,2,none⟩=some (.int .i64 b.e))
    (first|with_reducible exact⟨(b1).c0,(b1).c1,(b1).c2,(b2).c0,(b2).c1,(b2).c2⟩|with_reducible exact⟨(b1.ext jI).c0,(b1.ext jI).c1,(b1.ext jI).c2,(b2.ext jI).c0,(b2.ext jI).c1,(b2.ext jI).c2⟩|with_reducible exact⟨(b1.ext (jI.trans iZ)).c0,(b1.ext (jI.trans iZ)).c1,(b1.ext (jI.trans iZ)).c2,(b2.ext (jI.trans iZ)).c0,(b2.ext (jI.trans iZ)).c1,(b2.ext (jI.trans iZ)).c2⟩|with_reducible exact⟨((b1.ext (jI.trans iZ)).wO (g' := w.heap.size+2) ae _ _ _).c0,((b1.ext (jI.trans iZ)).wO (g' := w.heap.size+2) ae _ _ _).c1,((b1.ext (jI.trans iZ)).wO (g' := w.heap.size+2) ae _ _ _).c2,((b2.ext (jI.trans iZ)).wO (g' := w.heap.size+2) ae _ _ _).c0,((b2.ext (jI.trans iZ)).wO (g' := w.heap.size+2) ae _ _ _).c1,((b2.ext (jI.trans iZ)).wO (g' := w.heap.size+2) ae _ _ _).c2⟩)
    (first
      | (go_at_call 191
         (with_reducible refine(HN.out _ hr).mono ?_)
         rintro r wx0 ⟨A_h4,c_h4,rfl,h4,jI⟩)
      | (go_at_call 190
         (with_reducible refine(HS.out _ _ _ (hs.below jI) h4 (kp.below jI)).mono ?_)
         rintro r wx1 ⟨A_h5,c_h5,rfl,h5,iZ⟩;have bz := b3.ext (jI.trans iZ);have z0 := bz.c0;have z1 := bz.c1;have z2 := bz.c2;have y0 := bz.fr 0;have y1 := bz.fr 1;have y2 := bz.fr 2))
  replace h4 := h4.below iZ;replace hE := hE.trans (jI.trans iZ);replace hs := hs.below (jI.trans iZ);replace hr := hr.below (jI.trans iZ);replace kp := kp.below (jI.trans iZ);replace b1 := b1.ext (jI.trans iZ);replace b2 := b2.ext (jI.trans iZ);replace b3 := b3.ext (jI.trans iZ);go_wp2;exact uI (d := D) rfl rfl rfl rfl (bz.set _ _ _ _ _) rfl (bz.qm h5 _ _ _ _ _) (jg.qc hE ae _ _ _ _ _)
open Go.RowKit Fp Pu
section
variable {f:FuncId} {L M:List Nat} {jW:E}
theorem Fw(hk:iC L)(hc:∀ (vs:Array Value) (w:World),(callFunc f vs).run Tryz.prog w = .ok (.enter f vs) w)
 {R:Option Addr->Nat->World->Ending->World->Prop} (H:∀ A c w,Sl w A c L->Tb w->Calls Tryz.prog f #[.slice A L.length c] w (R A c w))
 (hR:∀ (A:Option Addr) (c:Nat) (B:Nat->Prop) w e w',Sl w A c L->(∀ b,B b->b<w.heap.size/\oI w b)->R A c w e w'->∃ v,e = .returned v/\Below w.heap.size w w'/\iG B (fun _=>True) w' jW v):gV f [gX L] jW:=by
 refine⟨hc,fun w B vs hK hB hr=>?_⟩;obtain⟨v1,vs,rfl,h1,hr⟩:=hr.lX;obtain rfl:=hr.pY;obtain⟨A,c,rfl,s1⟩:=uj hk h1;exact(H A c w s1 hK).mono fun e w' h=>hR A c B w e w' s1 hB h
theorem Fx(hk:iC L){n:Int}(hc:∀ (vs:Array Value) (w:World),(callFunc f vs).run Tryz.prog w = .ok (.enter f vs) w)
 {R:Option Addr->Nat->World->Ending->World->Prop} (H:∀ A c w,Sl w A c L->Tb w->Calls Tryz.prog f #[.slice A L.length c,.int .i64 n] w (R A c w))
 (hR:∀ (A:Option Addr) (c:Nat) (B:Nat->Prop) w e w',Sl w A c L->(∀ b,B b->b<w.heap.size/\oI w b)->R A c w e w'->∃ v,e = .returned v/\Below w.heap.size w w'/\iG B (fun _=>True) w' jW v):gV f [gX L,iP n] jW:=by
 refine⟨hc,fun w B vs hK hB hr=>?_⟩;obtain⟨v1,vs,rfl,h1,hr⟩:=hr.lX;obtain⟨v2,vs,rfl,h2,hr⟩:=hr.lX;obtain rfl:=hr.pY;obtain rfl:=iG.kJ h2;obtain⟨A,c,rfl,s1⟩:=uj hk h1;exact(H A c w s1 hK).mono fun e w' h=>hR A c B w e w' s1 hB h
theorem Ar(hk:iC L)(hm:iC M)(hc:∀ (vs:Array Value) (w:World),(callFunc f vs).run Tryz.prog w = .ok (.enter f vs) w)
 {R:World->Ending->World->Prop} (H:∀ A c B d w,Sl w A c L->Sl w B d M->Tb w->Calls Tryz.prog f #[.slice A L.length c,.slice B M.length d] w (R w))
 (hR:∀ (B:Nat->Prop) w e w',(∀ b,B b->b<w.heap.size/\oI w b)->R w e w'->∃ v,e = .returned v/\Below w.heap.size w w'/\iG B (fun _=>True) w' jW v):gV f [gX L,gX M] jW:=by
 refine⟨hc,fun w B vs hK hB hr=>?_⟩;obtain⟨v1,vs,rfl,h1,hr⟩:=hr.lX;obtain⟨v2,vs,rfl,h2,hr⟩:=hr.lX;obtain rfl:=hr.pY;obtain⟨A,c,rfl,s1⟩:=uj hk h1;obtain⟨A',d,rfl,s2⟩:=uj hm h2;exact(H A c A' d w s1 s2 hK).mono fun e w' h=>hR B w e w' hB h
end
theorem FP{L:List Nat}{n:Int}(B:Nat->Prop)(w:World)(e:Ending)(w':World)(hB:∀ b,B b->b<w.heap.size/\oI w b)(h:B7 w L n e w'):∃ v,e = .returned v/\Below w.heap.size w w'/\iG B (fun _=>True) w' (.iw [gX L,iP n]) v:=
 let⟨_,_,h1,h2,h3⟩:=h
 ⟨_,h1,h3,kr.iw (.cons (xy hB h3 h2) (.cons (.v _) (.nil _ _ _)))⟩
theorem rl{L:List Nat}(B:Nat->Prop)(w:World)(e:Ending)(w':World)(hB:∀ b,B b->b<w.heap.size/\oI w b)(h:sO w L e w'):∃ v,e = .returned v/\Below w.heap.size w w'/\iG B (fun _=>True) w' (gX L) v:=
 let⟨_,_,h1,h2,h3⟩:=h
 ⟨_,h1,h3,xy hB h3 h2⟩
theorem tg(L:List Nat)(hk:iC L):gV 167 [gX L] (gX (ij L)):=
 Fw hk Tryz.call167 (fun A c w h _=>ud A c L w h) fun A c B w e w' h hB ⟨h1,h2⟩=>by subst h2;exact⟨_,h1,Below.refl _ _,xy hB (Below.refl _ _) h.tk⟩
theorem UU(L:List Nat)(hk:iC L)(hl:(ij L).length<=256):gV 165 [gX L] (.iw [gX (ij L),iP 0]):=
 Fw hk Tryz.call165 (fun A c w h _=>Fg A c L w h hl) fun A c B w e w' h hB r=>FP B w e w' hB r
theorem agH(L:List Nat)(hk:iC L)(hl:L.length<=100000):gV 194 [gX L] (iP (ia (val L))):=
 Fw hk Tryz.call194 (fun A c w h _=>UT A c L w h ae) fun A c B w e w' h hB ⟨h1,h2⟩=>by subst h2;exact⟨_,h1,Below.refl _ _,.v _⟩
theorem M6(L M:List Nat)(hk:iC L)(hm:iC M)(hl:L.length<=100000)(ns:M.length<=100000):gV 131 [gX L,gX M] (iP (jY (val L) (val M))):=
 Ar hk hm Tryz.call131 (fun A c B d w h k _=>Ff A B c d L M w h k ae ae) rv
theorem UZ(m n:Nat)(hl:(gU m).length<=256)(hn:n<=65536)(hf:(gU (m*2^n)).length<=256):gV 168 [gX (gU m),iP (n:Int)] (.iw [gX (gU (m*2^n)),iP 0]):=
 Fx (kB m) Tryz.call168 (fun A c w h _=>UY A c (gU m) n w h hl hn (by rw[jC];exact hf)) fun A c B w e w' h hB r=>by rw[jC]at r;exact FP B w e w' hB r
theorem M9(m n:Nat)(hl:(gU m).length<=256)(hn:n<=65536):gV 127 [gX (gU m),iP (n:Int)] (.iw [gX (gU (m/2^n)),iP 0]):=
 Fx (kB m) Tryz.call127 (fun A c w h _=>U2 A c (gU m) n w h hl hn) fun A c B w e w' h hB r=>by rw[jC]at r;exact FP B w e w' hB r
theorem I1(m n:Nat)(h1:(gU m).length<=256)(h2:(gU n).length<=256)(hf:(gU (m+n)).length<=256):gV 218 [gX (gU m),gX (gU n)] (.iw [gX (gU (m+n)),iP 0]):=by
 refine Ar (kB m) (kB n) Tryz.call218 (fun A c B d w h k _=>US A B c d (gU m) (gU n) w h k h1 h2 (by rw[jC,jC];exact hf)) ?_;rw[jC,jC];exact FP
theorem Fj(m n:Nat)(h1:(gU m).length<=256)(h2:(gU n).length<=256)(hf:n<=m):gV 219 [gX (gU m),gX (gU n)] (.iw [gX (gU (m-n)),iP 0]):=by
 refine Ar (kB m) (kB n) Tryz.call219 (fun A c B d w h k _=>Na A B c d (gU m) (gU n) w h k h1 h2 (by rw[jC,jC];exact hf)) ?_;rw[jC,jC];exact FP
theorem r9(m:Nat)(hl:(gU m).length<=100000):gV 194 [gX (gU m)] (iP (ia m)):=by
 have:=agH (gU m) (kB m) hl;rwa[jC]at this
theorem yH(m n:Nat)(hl:(gU m).length<=100000)(ns:(gU n).length<=100000):gV 131 [gX (gU m),gX (gU n)] (iP (jY m n)):=by
 have:=M6 (gU m) (gU n) (kB m) (kB n) hl ns;rwa[jC,jC]at this
theorem xR(a:Dy)(ha:a.ib):gV 191 [gY a] (gY (iF a)):=xq Tryz.call191 (fun A c w h _=>Q6 a A c w h ha) rd
theorem oC(a:Dy)(ha:a.ib):gV 130 [gY a] (iP a.iu):=xq Tryz.call130 (fun A c w h _=>KT a A c w h ha) rv
theorem AY(s:Bool)(m:Nat)(e:Int)(hl:(gU m).length<=256)(kQ:-32768<=e)(kx:e<=32768)(hd:mP (canon s m e)):gV 262 [bP s,gX (gU m),iP e] (.iw [gY (canon s m e),iP 0]):=by
 refine⟨Tryz.call262,fun w B vs hK hB hr=>?_⟩;obtain⟨v1,vs,rfl,h1,hr⟩:=hr.lX;obtain⟨v2,vs,rfl,h2,hr⟩:=hr.lX;obtain⟨v3,vs,rfl,h3,hr⟩:=hr.lX;obtain rfl:=hr.pY;obtain rfl:=iG.kJ h1;obtain rfl:=iG.kJ h3;obtain⟨A,c,rfl,s1⟩:=uj (kB m) h2;have:=agA s A c (gU m) e w s1 hl kQ kx hK (by rw[jC];exact hd);rw[jC]at this;exact this.mono fun e w' h=>FM B w e w' hB h
theorem rN:E.le (.sl false 1 1 fun i j=>[E.v (.int .u32 1)].getD (i*1+j) (.v (.bool false))) (gX (gU 1)):=by
 have e1:gU 1=[1]:=by rw[yF ag,show 1/4294967296=0 by decide,nh]
 rw[e1];refine .sl fun i j hi hj=>?_
 obtain rfl:i=0:= ae ;obtain rfl:j=0:= ae ;exact⟨.refl _,rfl⟩
def jo(d:Dy):List E:=[bP d.neg,gX (gU d.m),iP d.e]
def np(l:List Dy):E:=.sl true l.length 3 fun i j=>(jo (l.getD i jx)).getD j .any
theorem KV(a:Dy):E.le (.sl true 1 3 fun i j=>[bP a.neg,gX (gU a.m),iP a.e].getD (i*3+j) (.v (.bool false))) (np [a]):=.sl fun i j hi hj=>by
 obtain rfl:i=0:= ae ;rcases j with _|_|_|j
 .exact ⟨.refl _,rfl⟩
 .exact ⟨.refl _,rfl⟩
 .exact ⟨.refl _,rfl⟩
 .omega
theorem vI(a b:Dy):E.le (.sl true 2 3 fun i j=>[bP a.neg,gX (gU a.m),iP a.e,bP b.neg,gX (gU b.m),iP b.e].getD (i*3+j) (.v (.bool false))) (np [a,b]):=.sl fun i j hi hj=>by
 obtain rfl|rfl:i=0\/i=1:= ae 
 all_goals
  rcases j with _|_|_|j
  .exact ⟨.refl _,rfl⟩
  .exact ⟨.refl _,rfl⟩
  .exact ⟨.refl _,rfl⟩
  .omega
theorem nj{n:Nat}(h:n≠0):((n:Int)==0)=false:= av 
theorem rM{n:Nat}(h:n=0):((n:Int)==0)=true:=by subst h;rfl
theorem BE{n:Nat}(h:n=0):((n:Int) != 0)=false:=by subst h;rfl
theorem Fi{n:Nat}(h:n≠0):((n:Int) != 0)=true:= av 
theorem qN{m:Nat}:(gU m).length=0↔m=0:=by rw[gv,Uh]
theorem pM{m:Nat}(h:m≠0):(gU m).length≠0:=fun q=>h (qN.1 q)
theorem Fp.Dy.ib.gU{d:Dy}(h:d.ib):(gU d.m).length<=256:=by have:=h.len;omega
end Go.Proofs.YtdgnpeddgdclhaaGreatDoor
namespace Go.Proofs.YtdgnpeddgdclhaaGreatDoor.Fp
structure Iv where
 lo:Dy
 hi:Dy
 all:Bool
def ie:Iv:=⟨jx,jx,true⟩
def Iv.ib(x:Iv):Prop:=(x.all=true/\x.lo=jx/\x.hi=jx)\/(x.all=false/\x.lo.ib/\x.hi.ib/\jm x.lo x.hi<=0)
theorem mh:ie.ib:=.inl ⟨rfl,rfl,rfl⟩
def kE(lo:Dy)(e:Int)(hi:Dy)(f:Int):Iv:=if e≠0\/f≠0 then ie else⟨lo,hi,false⟩
def kI(a b:Dy):Dy:=canon (a.neg != b.neg) (a.m*b.m) (a.e+b.e)
def qD(x:Iv):Iv:=if x.all then ie else⟨iF x.hi,iF x.lo,false⟩
def jj(x y:Iv)(p:Nat):Iv:=
 if x.all||y.all then ie else kE (jh (iI x.lo y.lo) p false) (jz (iI x.lo y.lo) p false) (jh (iI x.hi y.hi) p true) (jz (iI x.hi y.hi) p true)
def FY(x y:Iv)(p:Nat):Iv:=jj x (qD y) p
theorem aa7{x y:Int}:vF x y<=0↔x<=y:=by
 unfold vF;split
 .constructor<;>intro<;>omega
 .split<;>constructor<;>intro<;>omega
theorem oh{a b:Dy}{k:Int}(ha:nG a k)(hb:nG b k):jm a b<=0↔a.num k<=b.num k:=by rw[Ci ha hb,aa7]
theorem le_trans{a b c:Dy}(h1:jm a b<=0)(h2:jm b c<=0):jm a c<=0:=by
 obtain⟨k,ka,kb,kc⟩:∃ k:Int,k<=a.e/\k<=b.e/\k<=c.e:=⟨min a.e (min b.e c.e),ae,ae,ae⟩
 rw[oh (.inr ka) (.inr kb)]at h1;rw[oh (.inr kb) (.inr kc)]at h2;rw[oh (.inr ka) (.inr kc)];omega
theorem yE(a:Dy):jm a a<=0:=by rw[oh (k:=a.e) (.inr (bY _)) (.inr (bY _))];exact bY _
theorem af0(a b:Dy):jm a b<=0\/jm b a<=0:=by
 obtain⟨k,ka,kb⟩:∃ k:Int,k<=a.e/\k<=b.e:=⟨min a.e b.e,ae,ae⟩
 rw[oh (.inr ka) (.inr kb),oh (.inr kb) (.inr ka)];omega
theorem ag0{a b:Dy}(h:jm a b<=0):jm (iF b) (iF a)<=0:=by
 obtain⟨k,ka,kb⟩:∃ k:Int,k<=a.e/\k<=b.e:=⟨min a.e b.e,ae,ae⟩
 rw[oh (.inr ka) (.inr kb)]at h;rw[oh (k:=k) (DN (.inr kb)) (DN (.inr ka)),Fo,Fo];omega
theorem akR{a b c d:Dy}(h1:jm a b<=0)(h2:jm c d<=0):jm (iI a c) (iI b d)<=0:=by
 obtain⟨k,ka,kb,kc,kd⟩:∃ k:Int,k<=a.e/\k<=b.e/\k<=c.e/\k<=d.e:=⟨min (min a.e b.e) (min c.e d.e),ae,ae,ae,ae⟩
 rw[oh (.inr ka) (.inr kb)]at h1;rw[oh (.inr kc) (.inr kd)]at h2;rw[oh (k:=k) (Gt (.inr ka) (.inr kc)) (Gt (.inr kb) (.inr kd)),JG (.inr ka) (.inr kc),JG (.inr kb) (.inr kd)];omega
theorem GW(m:Nat)(e:Int)(p:Nat):
 kD m e false p false*2^ja m e p<=m/\m<=kD m e false p true*2^ja m e p:=by
 have h:=bU m (2^ja m e p);have hr:=bg m (aY (n:=ja m e p) (ag:0<2));unfold kD;simp only[bq,false_and,a6,bt,false_or,true_and];rw[a7];generalize m/2^ja m e p=q at *
 generalize 2^ja m e p=P at *
 refine⟨ae,?_⟩;rw[bK,a7 q];split
 .omega
 .omega
theorem Kz{s:Bool}{m n:Nat}{e f K:Int}(h1:K<=e)(h2:K<=f)(h:m*2^(e-K).toNat<=n*2^(f-K).toNat):
 (s=false->jm (canon s m e) (canon s n f)<=0)/\(s=true->jm (canon s n f) (canon s m e)<=0):=by
 constructor
 .rintro rfl
  rw[oh (zf h1) (zf h2),Vg h1,Vg h2]
  exact_mod_cast h
 .rintro rfl
  rw[oh (zf h2) (zf h1),BH h1,BH h2];simp only[bk];omega
theorem QL(neg:Bool)(m:Nat)(e:Int)(p:Nat)(up:Bool)(he:jG neg m e false p up=0)(_hp:1<=p):
 (up=true->jm (canon neg m e) (jP neg m e false p up)<=0)/\(up=false->jm (jP neg m e false p up) (canon neg m e)<=0):=by
 rw[DZ]at he;obtain⟨c1,c2⟩:=GW m e p;have e1:(e-e).toNat=0:= ae ;have e2:(e+(ja m e p:Int)-e).toNat=ja m e p:= ae ;have hk:e<=e+(ja m e p:Int):= ae ;have A:=fun s:Bool=>Kz (s:=s) (m:=kD m e false p false) (n:=m) (e:=e+ja m e p) (f:=e) (K:=e) hk (bY _) (by rw[e1,e2];simpa using c1)
 have B:=fun s:Bool=>Kz (s:=s) (m:=m) (n:=kD m e false p true) (e:=e) (f:=e+ja m e p) (K:=e) (bY _) hk (by rw[e1,e2];simpa using c2)
 unfold jP;by_cases ho:lN m e false p (neg != up)=true
 .have hn:¬(neg != up)=true:=fun h=>he ⟨ho,h⟩
  rw[aR ho,aQ hn];have S7:neg=up:=by cases neg<;>cases up<;>simp at hn ⊢
  have j9:(neg != up)=false:=by rw[S7];simp
  rw[j9]at ho;unfold lN at ho;simp only[bB,bW]at ho;obtain⟨o1,o2⟩:=ho;have hq:=rj o1;have po:=mR o1;obtain⟨K,k1,k2⟩:∃ K:Int,K<=e/\K<=16384-p:=⟨min e (16384-p),ae,ae⟩
  have C:(2^p-1)*2^((16384:Int)-p-K).toNat<=m*2^(e-K).toNat:=by
   have h1:2^(ia (kD m e false p false)-1)*2^ja m e p<=m:=aX (bC _ hq) c1;have h2:=bC (2^(e-K).toNat) h1;rw[<-aV,<-aV]at h2;refine aX (bC _ (dj _ _)) (aX ?_ h2);rw[<-aV];exact bh ag ae 
  have D:=Kz (s:=neg) k2 k1 C;subst S7;cases neg
  .exact ⟨fun h=>absurd h ag,fun _=>D.1 rfl⟩
  .exact ⟨fun _=>D.2 rfl,fun h=>absurd h ag⟩
 .rw [aQ ho]
  cases neg<;>cases up
  .exact ⟨fun h=>absurd h ag,fun _=>(A false).1 rfl⟩
  .exact ⟨fun _=>(B false).1 rfl,fun h=>absurd h ag⟩
  .exact ⟨fun h=>absurd h ag,fun _=>(B true).2 rfl⟩
  .exact ⟨fun _=>(A true).2 rfl,fun h=>absurd h ag⟩
theorem WL{d:Dy}(hd:d.lG)(p:Nat)(hp:1<=p):
 (jz d p true=0->jm d (jh d p true)<=0)/\(jz d p false=0->jm (jh d p false) d<=0):=by
 have h:=hd.Cf;constructor
 .intro he
  have:=(QL d.neg d.m d.e p true he hp).1 rfl;rwa[h]at this
 .intro he
  have:=(QL d.neg d.m d.e p false he hp).2 rfl;rwa[h]at this
theorem rT{x y:Iv}(hx:x.ib)(hy:y.ib){p:Nat}(hp:1<=p)(ic:p<=4096):(jj x y p).ib:=by
 unfold jj;rcases hx with⟨h,_⟩|⟨h1,h2,h3,h4⟩
 .rw [h];exact mh
 .rcases hy with⟨h,_⟩|⟨k1,k2,k3,k4⟩
  .rw [h,h1];exact mh
  .rw [h1,k1]
   simp only[gw,bq,a6];unfold kE;by_cases he:jz (iI x.lo y.lo) p false≠0\/jz (iI x.hi y.hi) p true≠0
   .rw [aR he];exact mh
   .rw [aQ he]
    have e1:jz (iI x.lo y.lo) p false=0:= ae ;have e2:jz (iI x.hi y.hi) p true=0:= ae ;refine .inr ⟨rfl,mi _ _ _ _ _ _ hp ic,mi _ _ _ _ _ _ hp ic,?_⟩;exact le_trans ((WL (AU h2.canon k2.canon) p hp).2 e1) (le_trans (akR h4 k4) ((WL (AU h3.canon k3.canon) p hp).1 e2))
theorem Fk{x:Iv}(hx:x.ib):(qD x).ib:=by
 unfold qD;rcases hx with⟨h,_⟩|⟨h1,h2,h3,h4⟩
 .rw [aR h];exact mh
 .rw [h1]
  exact .inr ⟨rfl,qj h3,qj h2,ag0 h4⟩
def iU(a b:Dy):Dy:=if jm b a<0 then b else a
def iO(a b:Dy):Dy:=if 0<jm b a then b else a
theorem E5(a b:Dy):jm (iU a b) a<=0:=by
 unfold iU;split
 .omega
 .exact yE a
theorem UI(a b:Dy):jm (iU a b) b<=0:=by
 unfold iU;split
 .exact yE b
 .rcases af0 a b with h|h
  .exact h
  .have h0:jm b a=0:= ae 
   obtain⟨k,ka,kb⟩:∃ k:Int,k<=a.e/\k<=b.e:=⟨min a.e b.e,ae,ae⟩
   rw[Ci (k:=k) (.inr kb) (.inr ka)]at h0;rw[oh (.inr ka) (.inr kb)];unfold vF at h0;split at h0
   .omega
   .split at h0<;>omega
theorem wK(a b:Dy):jm a b = -jm b a:=by
 obtain⟨k,ka,kb⟩:∃ k:Int,k<=a.e/\k<=b.e:=⟨min a.e b.e,ae,ae⟩
 rw[Ci (k:=k) (.inr ka) (.inr kb),Ci (k:=k) (.inr kb) (.inr ka)];unfold vF;split<;>split<;>(try split)<;>omega
theorem C9(a b:Dy):jm a (iO a b)<=0:=by
 unfold iO;split
 .rw [wK];omega
 .exact yE a
theorem UF(a b:Dy):jm b (iO a b)<=0:=by
 unfold iO;split
 .exact yE b
 .omega
theorem pX{a b:Dy}(ha:a.ib)(hb:b.ib):(iU a b).ib:=by unfold iU;split;exact hb;exact ha
theorem oX{a b:Dy}(ha:a.ib)(hb:b.ib):(iO a b).ib:=by unfold iO;split;exact hb;exact ha
def mf(D : Dy->Dy->Bool->Dy)(E : Dy->Dy->Bool->Int)(x y : Iv) : Iv:=
 if(E x.lo y.lo false=0/\E x.lo y.lo true=0)/\(E x.lo y.hi false=0/\E x.lo y.hi true=0)/\(E x.hi y.lo false=0/\E x.hi y.lo true=0)/\(E x.hi y.hi false=0/\E x.hi y.hi true=0)then
  ⟨iU (iU (iU (D x.lo y.lo false) (D x.lo y.hi false)) (D x.hi y.lo false)) (D x.hi y.hi false),
   iO (iO (iO (D x.lo y.lo true) (D x.lo y.hi true)) (D x.hi y.lo true)) (D x.hi y.hi true),false⟩
 else ie
theorem RN{D:Dy->Dy->Bool->Dy}{E:Dy->Dy->Bool->Int}{x y:Iv}(hv:∀ a b up,(D a b up).ib)
 (hle:E x.lo y.lo false=0->E x.lo y.lo true=0->jm (D x.lo y.lo false) (D x.lo y.lo true)<=0):(mf D E x y).ib:=by
 unfold mf;split
 .rename_i h
  refine .inr ⟨rfl,pX (pX (pX (hv _ _ _) (hv _ _ _)) (hv _ _ _)) (hv _ _ _),oX (oX (oX (hv _ _ _) (hv _ _ _)) (hv _ _ _)) (hv _ _ _),?_⟩;refine le_trans (E5 _ _) (le_trans (E5 _ _) (le_trans (E5 _ _) (le_trans (hle h.1.1 h.1.2) ?_)));exact le_trans (C9 _ _) (le_trans (C9 _ _) (C9 _ _))
 .exact mh
def iN(x y:Iv)(p:Nat):Iv:=
 if x.all||y.all then ie else mf (fun a b up=>jh (kI a b) p up) (fun a b up=>jz (kI a b) p up) x y
theorem qC(x y:Iv){p:Nat}(hp:1<=p)(ic:p<=4096):(iN x y p).ib:=by
 unfold iN;split
 .exact mh
 .exact RN (fun _ _ _=>mi _ _ _ _ _ _ hp ic) (fun h1 h2=>QJ _ _ _ _ _ h1 h2)
def kn(a b:Dy)(p:Nat)(g:Nat):Nat:=p+g+ia b.m-ia a.m
def kt(a b:Dy)(p:Nat)(up:Bool):Dy:=
 if a.m=0 then jx else jP (a.neg != b.neg) (a.m*2^kn a b p 2/b.m) (a.e-b.e-kn a b p 2) (decide (a.m*2^kn a b p 2%b.m≠0)) p up
def nc(a b:Dy)(p:Nat)(up:Bool):Int:=
 if a.m=0 then 0 else jG (a.neg != b.neg) (a.m*2^kn a b p 2/b.m) (a.e-b.e-kn a b p 2) (decide (a.m*2^kn a b p 2%b.m≠0)) p up
theorem KN{a b:Dy}(a0:a.m≠0)(b0:b.m≠0)(p g:Nat)(hg:2<=g):p<ia (a.m*2^kn a b p g/b.m):=by
 have h1:=rj a0;have h2:=oM b.m;have ha:=mR a0;have h3:2^p<=a.m*2^kn a b p g/b.m:=by
  rw[cL ae];refine aX (ca _ (cW h2)) (aX ?_ (bC _ h1));rw[<-aV,<-aV];exact bh ag (by unfold kn;omega)
 exact r7.2 h3
theorem abz{a b:Dy}(a0:a.m≠0)(b0:b.m≠0)(p:Nat)(up:Bool):
 jP (a.neg != b.neg) (a.m*2^kn a b p 3/b.m) (a.e-kn a b p 3-b.e) (decide (a.m*2^kn a b p 3%b.m≠0)) p up=kt a b p up /\
 jG (a.neg != b.neg) (a.m*2^kn a b p 3/b.m) (a.e-kn a b p 3-b.e) (decide (a.m*2^kn a b p 3%b.m≠0)) p up=nc a b p up:=by
 obtain⟨d,hd⟩:∃ d,kn a b p 3=kn a b p 2+d:=⟨kn a b p 3-kn a b p 2,by unfold kn;omega⟩
 have hb:=KN a0 b0 p 2 ag;unfold kt nc;rw[aQ a0,aQ a0,hd];generalize kn a b p 2=k at *
 have hB:0<b.m:= ae ;have hP:=aY (n:=d) (ag:0<2);have e1:a.m*2^(k+d)/b.m/2^d=a.m*2^k/b.m:=by
  rw[cz,aV,<-bc,Nat.mul_div_mul_right _ _ hP]
 have e2:(decide (a.m*2^(k+d)%b.m≠0)||decide (a.m*2^(k+d)/b.m%2^d≠0))=decide (a.m*2^k%b.m≠0):=by
  have h1:a.m*2^(k+d)%(b.m*2^d)=a.m*2^k%b.m*2^d:=by rw[aV,<-bc,Nat.mul_mod_mul_right]
  have h2:a.m*2^(k+d)%(b.m*2^d)=a.m*2^(k+d)%b.m+b.m*(a.m*2^(k+d)/b.m%2^d):=fK;rw[h1]at h2;rw[cQ];simp only[fF,bW];constructor
  .intro h h0
   rw[h0,ch]at h2;rcases h with h|h
   .omega
   .have:=eC hB (dB h)
    omega
  .intro h
   apply bE;intro hn;have n1:a.m*2^(k+d)%b.m=0:=by
    apply bE;intro h';exact hn (.inl h')
   have n2:a.m*2^(k+d)/b.m%2^d=0:=by
    apply bE;intro h';exact hn (.inr h')
   rw[n1,n2,cr]at h2;have:=eC (dB h) hP;omega
 have h:=GV (N:=a.m*2^(k+d)/b.m) (E:=a.e-((k+d:Nat):Int)-b.e) (more:=decide (a.m*2^(k+d)%b.m≠0)) (d:=d) (p:=p) (a.neg != b.neg) up (by rw[e1];exact hb);rw[e1,e2,show a.e-((k+d:Nat):Int)-b.e+(d:Int)=a.e-b.e-(k:Int)by omega]at h;exact⟨h.1.symm,h.2.symm⟩
def lL(x:Iv):Int:=if x.all then 0 else if 0<x.lo.iK then 1 else if x.hi.iK<0 then -1 else 0
def jS(x y:Iv)(p:Nat):Iv:=
 if x.all||y.all||decide (lL y=0)then ie else mf (fun a b up=>kt a b p up) (fun a b up=>nc a b p up) x y
theorem vG(x y:Iv){p:Nat}(hp:1<=p)(ic:p<=4096):(jS x y p).ib:=by
 unfold jS;split
 .exact mh
 .refine RN (fun a b up=>?_) (fun h1 h2=>?_)
  .unfold kt;split
   .exact rm
   .exact mi _ _ _ _ _ _ hp ic
  .unfold kt nc at *
   split
   .exact yE _
   .rename_i h
    rw[aQ h]at h1 h2;exact QJ _ _ _ _ _ h1 h2
def kY(d:Dy):Dy:=⟨false,d.m,d.e⟩
theorem ru{d:Dy}(h:d.ib):(kY d).ib:=by
 refine⟨?_,h.range⟩;rcases h.canon with⟨h1,_,h3⟩|h1
 .exact .inl ⟨h1,rfl,h3⟩
 .exact .inr h1
theorem YO(d:Dy)(k:Int):(kY d).num k=(d.jQ k:Int):=by unfold Dy.num kY Dy.jQ;simp
def mu(x:Iv):Dy:=iO (kY x.lo) (kY x.hi)
def ni(x:Iv):Dy:=if lL x=0 then jx else iU (kY x.lo) (kY x.hi)
def iW(x:Iv):Iv:=if x.all then ie else⟨ni x,mu x,false⟩
def me(d:Dy):Iv:=⟨d,d,false⟩
theorem vh{d:Dy}(h:d.ib):(me d).ib:=.inr ⟨rfl,h,h,yE d⟩
theorem IV{x:Iv}(h1:x.lo.ib)(h2:x.hi.ib):(mu x).ib:=oX (ru h1) (ru h2)
theorem DO{x:Iv}(h:x.ib):(iW x).ib:=by
 unfold iW;rcases h with⟨h,_⟩|⟨h,h1,h2,_⟩
 .rw [h];exact mh
 .rw [h]
  have v1:=ru h1;have v2:=ru h2;refine .inr ⟨rfl,?_,IV h1 h2,?_⟩
  .show (ni x).ib
   unfold ni;split
   .exact rm
   .exact pX v1 v2
  .show jm (ni x) (mu x)<=0
   unfold ni;split
   .refine le_trans (b:=kY x.lo) ?_ (C9 _ _)
    rw[oh (a:=jx) (b:=kY x.lo) (k:=x.lo.e) (.inl rfl) (.inr (bY _)),vd rfl,YO];omega
   .exact le_trans (E5 _ _) (C9 _ _)
def jd(n:Int):Dy:=kT n 0
def jD(n:Int):Iv:=me (jd n)
def sU:Iv:=me (canon false 1 (-1))
end Go.Proofs.YtdgnpeddgdclhaaGreatDoor.Fp
namespace Go.Proofs.YtdgnpeddgdclhaaGreatDoor
open Go.RowKit Fp Pu
def iY(x:Iv):List E:=[bP x.lo.neg,gX (gU x.lo.m),iP x.lo.e,bP x.hi.neg,gX (gU x.hi.m),iP x.hi.e,bP x.all]
def gZ(x:Iv):E:=.agg (iY x)
def ik(l:List Iv):E:=.sl true l.length 7 fun i j=>(iY (l.getD i ie)).getD j .any
def pW(m:List (List Iv)):E:=.sl true m.length 1 fun i _=>ik (m.getD i [])
def oV(x y:Iv):Bool:=y.all||(!x.all&&(decide (jm y.lo x.lo<=0)&&decide (jm x.hi y.hi<=0)))
theorem Al:E.le (.v (.slice none 0 0)) (gX (gU 0)):=by
 have:gX (gU 0) = .sl false 0 1 fun i _=>.v (.int .u32 (((gU 0).getD i 0:Nat):Int)):=by unfold gX;rw[nh];rfl
 rw[this];exact .nil _ _ _
theorem Ge:E.le (.agg [bP false,.v (.slice none 0 0),iP 0,bP false,.v (.slice none 0 0),iP 0,bP true]) (gZ ie):=
 .agg (.cons (.refl _) (.cons Al (.cons (.refl _) (.cons (.refl _) (.cons Al (.cons (.refl _) (.cons (.refl _) .nil)))))))
open Go.RowKit Fp Pu
structure RD where
 neg:Bool
 L:List Nat
 e:Int
structure RI where
 lo:RD
 hi:RD
 all:Bool
def NP(d:RD):List E:=[bP d.neg,gX d.L,iP d.e]
def mF(d:RD):E:=.agg (NP d)
def yQ(x:RI):List E:=[bP x.lo.neg,gX x.lo.L,iP x.lo.e,bP x.hi.neg,gX x.hi.L,iP x.hi.e,bP x.all]
def uh(x:RI):E:=.agg (yQ x)
def Dv:RD:=⟨false,[],0⟩
def ju:RI:=⟨Dv,Dv,true⟩
def kj(l:List RI):E:=.sl true l.length 7 fun i j=>(yQ (l.getD i ju)).getD j .any
structure RD.ji(d:RD):Prop where
 ok:iC d.L
 lo:-9223372036854775808<=d.e
 hi:d.e<=9223372036854775807
structure RI.ji(x:RI):Prop where
 lo:x.lo.ji
 hi:x.hi.ji
theorem WZ:Dv.ji:=⟨iC.nil,ag,ag⟩
theorem WY:ju.ji:=⟨WZ,WZ⟩
def RD.dy(d:RD):Dy:=⟨d.neg,val d.L,d.e⟩
def RD.Ok(d:RD):Prop:=oH d.neg d.L d.e
def RD.Zero(d:RD):Prop:=d.neg=false/\d.L=[]/\d.e=0
def RI.iv(x:RI):Iv:=⟨x.lo.dy,x.hi.dy,x.all⟩
def RI.Ok(x:RI):Prop:=(x.all=true/\x.lo.Zero/\x.hi.Zero)\/(x.all=false/\x.lo.Ok/\x.hi.Ok/\jm x.lo.dy x.hi.dy<=0)
def Fp.Dy.raw(d:Dy):RD:=⟨d.neg,gU d.m,d.e⟩
def Fp.Iv.raw(x:Iv):RI:=⟨x.lo.raw,x.hi.raw,x.all⟩
theorem RD.Ok.valid{d:RD}(h:d.Ok):d.dy.ib:=h.2.2
theorem RD.Ok.eq{d:RD}(h:d.Ok)(g:d.ji):d.dy.raw=d:=by
 obtain⟨n,L,e⟩:=d;show RD.mk n (gU (val L)) e=_;rw[<-oH.D9 h g.ok]
theorem RD.Zero.eq{d:RD}(h:d.Zero):d.dy=jx/\d.dy.raw=d:=by
 obtain⟨n,L,e⟩:=d;obtain⟨rfl,rfl,rfl⟩:=h;refine⟨rfl,?_⟩;show RD.mk false (gU 0) 0=_;rw[nh]
theorem RI.Ok.valid{x:RI}(h:x.Ok):x.iv.ib:=by
 rcases h with⟨h1,h2,h3⟩|⟨h1,h2,h3,h4⟩
 .exact .inl ⟨h1,h2.eq.1,h3.eq.1⟩
 .exact .inr ⟨h1,h2.valid,h3.valid,h4⟩
theorem RI.Ok.eq{x:RI}(h:x.Ok)(g:x.ji):x.iv.raw=x:=by
 obtain⟨lo,hi,a⟩:=x;rcases h with⟨h1,h2,h3⟩|⟨h1,h2,h3,h4⟩
 .show RI.mk lo.dy.raw hi.dy.raw a=_
  rw[h2.eq.2,h3.eq.2]
 .show RI.mk lo.dy.raw hi.dy.raw a=_
  rw[h2.eq g.lo,h3.eq g.hi]
theorem KP(d:Dy):mF d.raw=gY d:=rfl
theorem IN(x:Iv):uh x.raw=gZ x:=rfl
theorem Fp.Iv.ib.jZ{x:Iv}(h:x.ib):x.lo.ib/\x.hi.ib:=by
 rcases h with⟨_,h2,h3⟩|⟨_,h2,h3,_⟩
 .rw [h2,h3];exact⟨rm,rm⟩
 .exact ⟨h2,h3⟩
theorem al2:ie.raw=ju:=by
 show RI.mk jx.raw jx.raw true=RI.mk Dv Dv true;have:jx.raw=Dv:=by show RD.mk false (gU 0) 0=_;rw[nh];rfl
 rw[this]
def Az(l:List Iv):List RI:=l.map Iv.raw
theorem ads(l:List Iv)(i:Nat):(Az l).getD i ju=(l.getD i ie).raw:=by
 unfold Az;rw[aW,aW,cj];cases l[i]? with
 |none=>exact al2.symm
 |some x=>rfl
theorem MM(l:List Iv):kj (Az l)=ik l:=by
 unfold kj ik;rw[show(Az l).length=l.length by simp[Az]];congr 1;funext i j;rw[ads];rfl
theorem A4(d:RD)(g:d.ji)(b:Bool)(hb:b=true↔d.Ok):gV 68 [mF d] (bP b):=by
 refine⟨Tryz.call68,fun w B vs hK hB hr=>?_⟩;obtain⟨v1,vs,rfl,h1,hr⟩:=hr.lX;obtain rfl:=hr.pY;obtain⟨us,rfl,q⟩:=iG.Ca (show iG _ _ w (.agg _) v1 from h1);obtain⟨u1,us,rfl,k1,q⟩:=q.lX;obtain⟨u2,us,rfl,k2,q⟩:=q.lX;obtain⟨u3,us,rfl,k3,q⟩:=q.lX;obtain rfl:=q.pY;obtain rfl:=iG.kJ k1;obtain rfl:=iG.kJ k3;obtain⟨A,c,rfl,hs⟩:=uj g.ok k2;exact(A5 d.neg A c d.L d.e w b hs g.lo g.hi hb).mono fun e w' h=>rv B w e w' hB h
theorem Jp(d:RD)(g:d.ji)(b:Bool)(hb:b=true↔d.Ok):gV 46 [mF d] (bP b):=by
 refine⟨Tryz.call46,fun w B vs hK hB hr=>?_⟩;obtain⟨v1,vs,rfl,h1,hr⟩:=hr.lX;obtain rfl:=hr.pY;obtain⟨us,rfl,q⟩:=iG.Ca (show iG _ _ w (.agg _) v1 from h1);obtain⟨u1,us,rfl,k1,q⟩:=q.lX;obtain⟨u2,us,rfl,k2,q⟩:=q.lX;obtain⟨u3,us,rfl,k3,q⟩:=q.lX;obtain rfl:=q.pY;obtain rfl:=iG.kJ k1;obtain rfl:=iG.kJ k3;obtain⟨A,c,rfl,hs⟩:=uj g.ok k2;exact(Jq d.neg A c d.L d.e w b hs g.lo g.hi hb).mono fun e w' h=>rv B w e w' hB h
theorem BF{a b:Nat}(h:a=b):((a:Int) != (b:Int))=false:=by simp[h]
theorem Fh{a b:Nat}(h:a=b):((a:Int)==(b:Int))=true:=by simp[h]
open Classical in
noncomputable def nm(x:RI):Bool:=decide x.Ok
theorem sd{x:RI}:nm x=true↔x.Ok:=by unfold nm;simp
open Classical in
open Go.ChangeShapes Go.WideShapes Go.ChangeAt Go.RowKit Fp Pu
abbrev mU:Nat->Prop:=fun _=>False
theorem aaX{W:World}{a:Addr}{v:Value}(h:W.cell? a=some v):a.spot=none:=by
 obtain⟨b,o,s⟩:=a;rcases s with _|q
 .rfl
 .exfalso
  unfold World.cell? at h;split at h<;>simp at h
theorem NV{W:World}{a:Addr}{len cap sz:Nat}{nl:Bool}(el:Nat->Nat->E)(hl:len<=cap)(hm:cap<=maxLen)(lI:0<sz)
 (h1:∀ i j,i<len->j<sz->(el i j).one=true/\(nl=true->(el i j).nk=true)/\(el i j).nr 2=true)
 (hx:∀ i,i<len->∃ cs,W.cells? 0 (a.add (i*sz)) sz=some cs/\∀ j,j<sz->∃ v,cs[j]? = some v/\iG mU mU W (el i j) v):
 iG mU mU W (.sl nl len sz el) (.slice (some a) len cap):=by
 have S4:cap<=9223372036854775807:=by simpa[maxLen]using hm
 have cellAt:∀ i j,i<len->j<sz->∃ v,W.cell? (a.add (i*sz+j))=some v/\iG mU mU W (el i j) v:=by
  intro i j hi hj;obtain⟨cs,h2,h3⟩:=hx i hi;obtain⟨v,h4,h5⟩:=h3 j hj;refine⟨v,?_,h5⟩;rw[<-Deep.add_add,(World.cells?_some h2).2.2 j hj,h4]
 by_cases h0:len=0
 .subst h0
  exact .sl nl 0 sz el _ cap (fun _ _=>.bool false) ae S4 (fun h=>by cases h) (fun i j hi=>absurd hi ae) (fun i j hi=>absurd hi ae) (fun i j hi=>absurd hi ae) (fun i j hi=>absurd hi ae)
 .obtain ⟨b,o,s⟩:=a
  have hs:s=none:=by
   obtain⟨v,h2,_⟩:=cellAt 0 0 ae lI;rw[ch,bX,show(⟨b,o,s⟩:Addr).add 0=⟨b,o,s⟩from rfl]at h2;exact aaX h2
  subst hs;have cell2:∀ i j,∃ v:Value,i<len->j<sz->W.cell? ⟨b,o+(i*sz+j),none⟩=some v/\iG mU mU W (el i j) v:=by
   intro i j;by_cases hi:i<len
   .by_cases hj:j<sz
    .obtain ⟨v,h2,h3⟩:=cellAt i j hi hj
     rw[AN]at h2;exact⟨v,fun _ _=>⟨h2,h3⟩⟩
    .exact ⟨.bool false,fun _ h=>absurd h hj⟩
   .exact ⟨.bool false,fun h=>absurd h hi⟩
  let f:Nat->Nat->Value:=fun i j=>Classical.choose (cell2 i j)
  have hf:∀ i j,i<len->j<sz->W.cell? ⟨b,o+(i*sz+j),none⟩=some (f i j)/\iG mU mU W (el i j) (f i j):=fun i j=>cM (cell2 i j)
  refine .sl nl len sz el _ cap f hl S4 (fun h=>by cases h) (fun i j hi hj=>?_) (fun i j hi hj=>(h1 i j hi hj).2.2) (fun i j hi hj=>?_) (fun i j hi hj=>(hf i j hi hj).2)
  .exact ⟨(hf i j hi hj).2.one (h1 i j hi hj).1,fun q=>(hf i j hi hj).2.nk ((h1 i j hi hj).2.1 q)⟩
  .exact ⟨b,o,rfl,id,block_lt_of_cell (hf i j hi hj).1,(hf i j hi hj).1⟩
def OT(W:World)(d:RD)(cs:List Value):Prop:=d.ji/\cs.length=3/\∀ j,j<3->∃ v,cs[j]? = some v/\iG mU mU W ((NP d).getD j .any) v
def J1(W:World)(x:RI)(cs:List Value):Prop:=x.ji/\cs.length=7/\∀ j,j<7->∃ v,cs[j]? = some v/\iG mU mU W ((yQ x).getD j .any) v
section
variable {H:Type} {enc:TypeId×Value->H} {W:World} {fuel:Nat} {cs:List Value} {x:DataW H×List MemPlace}
theorem Nr(h:DataW.trod enc Tryz.prog W 0 (fun _=>true) true fuel 31 cs=some x)(iD:∀ p ∈ x.2,p.block<W.heap.size):∃ d,OT W d cs:=by
 obtain⟨s,A,L,cap,e,rfl,s8,h1,h2⟩:=ahl h iD;refine⟨⟨s,L,e⟩,⟨s8.ok,h1,h2⟩,rfl,fun j hj=>?_⟩;rcases j with _|_|_|j
 .exact ⟨_,rfl,.v _⟩
 .exact ⟨_,rfl,xy (w:=W) (fun _ h=>h.elim) (.refl _) s8⟩
 .exact ⟨_,rfl,.v _⟩
 .omega
theorem ahp(h:DataW.trod enc Tryz.prog W 0 (fun _=>true) true fuel 41 cs=some x)(iD:∀ p ∈ x.2,p.block<W.heap.size):∃ d,J1 W d cs:=by
 obtain⟨xs,n,rfl,rfl,hl,lv,hf⟩:=DataW.trod_struct Tryz.underlying41 h;have hC:Tryz.prog.cellsOf 41=7:= ah ;have hD:Tryz.prog.cellsOf 31=3:= ah ;have hB:Tryz.prog.cellsOf 4=1:= ah ;rw[hC]at hl;obtain⟨c0,c1,c2,c3,c4,c5,c6,rfl⟩:=agl hl;have h0:=hf 0 _ rfl;have h1:=hf 1 _ rfl;have h2:=hf 2 _ rfl;simp only[eH,eI,dP]at h0 h1 h2;simp only[hD,hB,eJ,eK,eh,eN]at h0 h1 h2;rw[bd (by rw[lv];decide)]at h0 h1 h2;obtain⟨lo,g1,_,k1⟩:=Nr h0 (fun p hp=>iD p (eO.2 ⟨_,cw _,hp⟩));obtain⟨hi,g2,_,k2⟩:=Nr h1 (fun p hp=>iD p (eO.2 ⟨_,cw _,hp⟩));obtain⟨al,e2,_⟩:=DataW.trod_bool Tryz.underlying4 h2;simp at e2;subst e2;refine⟨⟨lo,hi,al⟩,⟨g1,g2⟩,rfl,fun j hj=>?_⟩;rcases j with _|_|_|_|_|_|_|j
 .exact k1 0 ag 
 .exact k1 1 ag 
 .exact k1 2 ag 
 .exact k2 0 ag 
 .exact k2 1 ag 
 .exact k2 2 ag 
 .exact ⟨_,rfl,.v _⟩
 .omega
theorem ajA(x:RI)(j:Nat)(hj:j<7):((yQ x).getD j .any).one=true/\(((yQ x).getD j .any).nk=true)/\((yQ x).getD j .any).nr 2=true:=by
 rcases j with _|_|_|_|_|_|_|j
 all_goals first|exact⟨rfl,rfl,rfl⟩|omega
theorem Ns(h:DataW.trod enc Tryz.prog W 0 (fun _=>true) true fuel 26 cs=some x)(iD:∀ p ∈ x.2,p.block<W.heap.size):
  ∃ l v,cs=[v]/\(∀ y,y ∈ l->y.ji)/\iG mU mU W (kj l) v:=by
 have hC:Tryz.prog.cellsOf 41=7:= ah ;rcases Deep.open_slice Tryz.underlying26 h with⟨rfl,_⟩|⟨a,len,cap,m,n,D,Pl,rfl,hb,hl,hm,rX,rfl,hx⟩
 .exact ⟨[],_,rfl,(fun y hy=>by cases hy),.sl true 0 7 _ none 0 (fun _ _=>.bool false) (aU _) ag (fun _=>rfl) (fun i j hi=>absurd hi (bj i)) (fun i j hi=>absurd hi (bj i)) (fun i j hi=>absurd hi (bj i)) (fun i j hi=>absurd hi (bj i))⟩
 .simp only[bk]at rX
  subst rX;have ex:∀ i,∃ y:RI,i<len->∃ cs',W.cells? 0 (a.add (i*7)) 7=some cs'/\J1 W y cs':=by
   intro i;by_cases hi:i<len
   .obtain ⟨cs',h1,h2⟩:=hx i ae 
    rw[hC]at h1;obtain⟨y,hy⟩:=ahp h2 (fun p hp=>iD p (List.mem_append_right _ (eO.2 ⟨i,bI.2 ae,hp⟩)));exact⟨y,fun _=>⟨cs',h1,hy⟩⟩
   .exact ⟨ju,fun h=>absurd h hi⟩
  let X:Nat->RI:=fun i=>Classical.choose (ex i)
  have hX:∀ i,i<len->∃ cs',W.cells? 0 (a.add (i*7)) 7=some cs'/\J1 W (X i) cs':=fun i=>cM (ex i)
  have hlen:((List.range len).map X).length=len:= aj ;refine⟨(List.range len).map X,_,rfl,?_,?_⟩
  .intro y hy
   obtain⟨i,hi,rfl⟩:=cY.1 hy;obtain⟨cs',_,h2⟩:=hX i (bI.1 hi);exact h2.1
  .have Es:∀ i,i<len->((List.range len).map X).getD i ju=X i:=by
    intro i hi;rw[aW,cj,amV hi];rfl
   have:=NV (W:=W) (a:=a) (len:=len) (cap:=m) (nl:=true) (fun i j=>(yQ (((List.range len).map X).getD i ju)).getD j .any) hl hm (show 0<7 by decide)
    (fun i j _ hj=>let⟨h1,h2,h3⟩:=ajA (((List.range len).map X).getD i ju) j hj;⟨h1,fun _=>h2,h3⟩)
    (fun i hi=>by
     obtain⟨cs',h1,h2,_,h3⟩:=hX i hi;exact⟨cs',h1,fun j hj=>by rw[Es i hi];exact h3 j hj⟩)
   unfold kj;rw[hlen];exact this
end
open Go.ChangeShapes Go.WideShapes Go.ChangeAt Go.RowKit Fp Pu
theorem adV{P:Program}{c:OpenClaim}(h:P.funcs.any Func.goes=false)(hs:c.start = .entering):false=c.goesBy P:=by
 have h1:∀ g:Nat,(P.funcs[g]?).any Func.goes=false:=by
  intro g;cases hg:P.funcs[g]? with
  |none=>rfl
  |some fn=>
   rw[Option.any_some];rw[Array.any_eq_false]at h;obtain⟨hl,he⟩:=cP.1 hg;have:=h g hl;rw[he]at this;simpa using this
 have h2:∀ f,P.goes f=false:=by
  intro f;unfold Program.goes;rw[h,Bool.and_false,gS,dW];intro g _;rw[h1 g];decide
 unfold OpenClaim.goesBy Program.goesAt Program.goesFrom;rw[hs];cases P.funcNamed c.func with
 |none=>rfl
 |some f=>simp[h2 f]
theorem ada:Tryz.pinned.checked.prog.funcs.any Func.goes=false:= ah 
def TV(k:IntKind)(l:List Int):E:=.sl true l.length 1 fun i _=>.v (.int k (l.getD i 0))
theorem Yo{k:IntKind}{z:Int}(h:(Lit.int k z).wf=true):ku k z:=by
 cases k<;>(simp[Lit.wf,IntKind.min,IntKind.max,IntKind.signed,IntKind.bits]at h;simp only[ku];omega)
theorem ahm{H:Type}{enc:TypeId×Value->H}{W:World}{fuel:Nat}{cs:List Value}{x:DataW H×List MemPlace}{t e:TypeId}{k:IntKind}(hk:∀ z,r6 (.int k z)=false)(ht:Tryz.prog.underlying t=some (.slice e))(he:Tryz.prog.underlying e=some (.int k))(hC:Tryz.prog.cellsOf e=1)
  (h:DataW.trod enc Tryz.prog W 0 (fun _=>true) true fuel t cs=some x):∃ l v,cs=[v]/\(∀ z,z ∈ l->ku k z)/\iG mU mU W (TV k l) v:=by
 rcases Deep.open_slice ht h with⟨rfl,_⟩|⟨a,len,cap,m,n,D,Pl,rfl,hb,hl,hm,rX,rfl,hx⟩
 .exact ⟨[],_,rfl,(fun y hy=>by cases hy),.sl true 0 1 _ none 0 (fun _ _=>.bool false) (aU _) ag (fun _=>rfl) (fun i j hi=>absurd hi (bj i)) (fun i j hi=>absurd hi (bj i)) (fun i j hi=>absurd hi (bj i)) (fun i j hi=>absurd hi (bj i))⟩
 .simp only[bk]at rX
  subst rX;have ex:∀ i,∃ z:Int,i<len->W.cells? 0 (a.add (i*1)) 1=some [.int k z]/\ku k z:=by
   intro i;by_cases hi:i<len
   .obtain ⟨cs',h1,h2⟩:=hx i ae 
    rw[hC]at h1;obtain⟨z,hz,_,hw⟩:=DataW.trod_int he h2;subst hz;exact⟨z,fun _=>⟨h1,Yo hw⟩⟩
   .exact ⟨0,fun h=>absurd h hi⟩
  let X:Nat->Int:=fun i=>Classical.choose (ex i)
  have hX:∀ i,i<len->W.cells? 0 (a.add (i*1)) 1=some [.int k (X i)]/\ku k (X i):=fun i=>cM (ex i)
  have hlen:((List.range len).map X).length=len:= aj ;refine⟨(List.range len).map X,_,rfl,?_,?_⟩
  .intro r hr
   obtain⟨i,hi,rfl⟩:=cY.1 hr;exact(hX i (bI.1 hi)).2
  .have Es:∀ i,i<len->((List.range len).map X).getD i 0=X i:=by
    intro i hi;rw[aW,cj,amV hi];rfl
   have:=NV (W:=W) (a:=a) (len:=len) (cap:=m) (nl:=true) (fun i _=>.v (.int k (((List.range len).map X).getD i 0))) hl hm (show 0<1 by decide)
    (fun i j _ hj=>⟨rfl,fun _=>by show(!r6 _)=true;rw[hk];rfl,rfl⟩)
    (fun i hi=>by
     refine⟨[.int k (X i)],(hX i hi).1,fun j hj=>?_⟩;obtain rfl:j=0:= ae ;exact⟨_,rfl,by rw[Es i hi];exact .v _⟩)
   unfold TV;rw[hlen];exact this
end Go.Proofs.YtdgnpeddgdclhaaGreatDoor
namespace Go.Proofs.YtdgnpeddgdclhaaGreatDoor.Pu
open Go.RowKit
inductive R where
 |nil
 |jB
 |a (p:Prop) (r:R)
 |w (p:Prop) (r1:p->R) (r2:¬p->R)
def R.ok:R->Prop
 | .nil=>True
 | .jB=>False
 | .a p r=>p/\r.ok
 | .w p r1 r2=>(∀ h:p,(r1 h).ok)/\(∀ h:¬p,(r2 h).ok)
inductive Tr(P:Program)(K:World->Prop) where
 |nil
 |c {f:FuncId} {args:List E} {jW:E} (h:PC P K f args jW) (t:Tr P K)
 |cf {f:FuncId} {args:List E} {jW:E} (h:AM P K f args jW) (t:Tr P K)
 |cn {f:FuncId} {args:List E} {nl:Bool} {T:TypeId} {n sz:Nat} {el:Nat->Nat->E} (h:uB P K f args nl T n sz el) (t:Tr P K)
 |g {op:BinOp} {ty:TypeId} {x y:E} {v:Value} (h:pz P op ty x y v) (t:Tr P K)
 |o (d:Nat) {p q:PV} (h:PV.le p q) (t:Tr P K)
 |bo (t:Tr P K)
 |a {p:Prop} (h:p) (t:Tr P K)
 |w (p:Prop) (t1:p->Tr P K) (t2:¬p->Tr P K)
 |s {c:Code} {σ τ:PS} {e:Ex} (h:Sp P K c σ (fun e' τ'=>e'=e/\τ'=τ)) (l t:Tr P K)
 |j (c:Nat) (τ:PS) (tj t:Tr P K)
 |v (d:Nat) {p q:PV} (h:PV.le p q) (t:Tr P K)
 |b (d:Nat) {p q:Bx} (h:Bx.le p q) (t:Tr P K)
 |z (id:Nat) (t:Tr P K)
 |y (s id:Nat) (nl:Bool) (T:TypeId) (sz:Nat) (el:Nat->Nat->E) (t:Tr P K)
 |e (t:Tr P K)
 |k (ts bs:List Nat) (t:Tr P K)
 |u (n:Nat) (t:Tr P K)
 |x (h:False)
 |r {p q:E} (h:E.le p q)
 |rb {p q:Bx} (h:Bx.le p q)
section
variable {P:Program} {K:World->Prop}
def DF:List (Nat×PV)->Tr P K->(Tr P K->R)->R
 | [],t,k=>k t
 | (d,q)::l,t,k=>match t with
  | .o d' (p:=p) (q:=q') _ t'=>if Nat.beq d' d then .a (PV.le p q') (DF l t' k)else .a (PV.le q q) (DF l t k)
  |t=>.a (PV.le q q) (DF l t k)
def Cd:List (Nat×Bx)->Tr P K->R->R
 | [],_,r=>r
 | (d,q)::l,t,r=>match t with
  | .b d' (p:=p) (q:=q') _ t'=>if Nat.beq d' d then .a (Bx.le p q') (Cd l t' r)else .a (Bx.le q q) (Cd l t r)
  |t=>.a (Bx.le q q) (Cd l t r)
def DA(σ:PS)(t:Tr P K)(r:R):R:=DF σ.t t fun t=>Cd σ.b t r
def Tr.ex:Tr P K->(Tr P K->R)->R
 | .nil,fin=>fin .nil
 | .e t,fin=>fin t
 | @Tr.c _ _ f args jW _ t,fin=>.a (PC P K f args jW) (t.ex fin)
 | @Tr.cf _ _ f args jW _ t,fin=>.a (AM P K f args jW) (t.ex fin)
 | @Tr.cn _ _ f args nl T n sz el _ t,fin=>.a (uB P K f args nl T n sz el) (t.ex fin)
 | @Tr.g _ _ op₁ ty₁ xe₁ ye₁ ve₁ _ t,fin=>.a (pz P op₁ ty₁ xe₁ ye₁ ve₁) (t.ex fin)
 | .o _ (p:=p) (q:=q) _ t,fin=>.a (PV.le p q) (t.ex fin)
 | .bo t,fin=>.a True (t.ex fin)
 | .a (p:=p) _ t,fin=>.a p (t.ex fin)
 | .w p t1 t2,fin=>.w p (fun h=>(t1 h).ex fin) (fun h=>(t2 h).ex fin)
 | @Tr.s _ _ c₁ σ τ e₁ _ l t,fin=>DA σ l (.a (Sp P K c₁ σ (fun e' τ'=>e'=e₁/\τ'=τ)) (t.ex fin))
 | .j _ τ tj t,fin=>.a (tj.ex fun t=>DA τ t .nil).ok (t.ex fin)
 | .v _ (p:=p) (q:=q) _ t,fin=>.a (PV.le p q) (t.ex fin)
 | .b _ _ t,fin=>t.ex fin
 | .z _ t,fin=>t.ex fin
 | .y _ _ _ _ _ _ t,fin=>t.ex fin
 | .k _ _ t,fin=>t.ex fin
 | .u _ t,fin=>t.ex fin
 | .x _,fin=>.a False .nil
 | .r (p:=p) (q:=q) _,fin=>.a (E.le p q) .nil
 | .rb (p:=p) (q:=q) _,fin=>.a (Bx.le p q) .nil
theorem ak9{l:List (Nat×PV)}{t:Tr P K}{k:Tr P K->R}(hk:∀ t,(k t).ok):(DF l t k).ok:=by
 induction l generalizing t with
 |nil=>exact hk t
 |cons x l ih=>
  obtain⟨d,q⟩:=x;cases t with
  |o d' h t'=>
   simp only[DF];split
   .exact ⟨h,ih⟩
   .exact ⟨PV.le.refl q,ih⟩
  |_=>exact⟨PV.le.refl q,ih⟩
theorem Zg{l:List (Nat×Bx)}{t:Tr P K}{r:R}(hr:r.ok):(Cd l t r).ok:=by
 induction l generalizing t with
 |nil=>exact hr
 |cons x l ih=>
  obtain⟨d,q⟩:=x;cases t with
  |b d' h t'=>
   simp only[Cd];split
   .exact ⟨h,ih⟩
   .exact ⟨Bx.le.refl q,ih⟩
  |_=>exact⟨Bx.le.refl q,ih⟩
theorem Ot{σ:PS}{t:Tr P K}{r:R}(hr:r.ok):(DA σ t r).ok:=ak9 fun _=>Zg hr
theorem Tr.Lc{fin:Tr P K->R}(hf:∀ t,(fin t).ok)(t:Tr P K):(t.ex fin).ok:=by
 induction t generalizing fin with
 |nil=>exact hf _
 |e t=>exact hf _
 |c h t ih=>exact⟨h,ih hf⟩
 |cf h t ih=>exact⟨h,ih hf⟩
 |cn h t ih=>exact⟨h,ih hf⟩
 |g h t ih=>exact⟨h,ih hf⟩
 |o d h t ih=>exact⟨h,ih hf⟩
 |bo t ih=>exact⟨trivial,ih hf⟩
 |a h t ih=>exact⟨h,ih hf⟩
 |w p t1 t2 EO EP=>exact⟨fun h=>EO h hf,fun h=>EP h hf⟩
 |s h l t ihl Mv=>exact Ot ⟨h,Mv hf⟩
 |j c τ tj t ihj Mv=>exact⟨ihj fun _=>Ot trivial,Mv hf⟩
 |v d h t ih=>exact⟨h,ih hf⟩
 |b d h t ih=>exact ih hf
 |z id t ih=>exact ih hf
 |y s id nl T sz el t ih=>exact ih hf
 |k ts bs t ih=>exact ih hf
 |u n t ih=>exact ih hf
 |x h=>exact h.elim
 |r h=>exact⟨h,trivial⟩
 |rb h=>exact⟨h,trivial⟩
def OB(υ:PS):List (Nat×PV)->R->R
 | [],r=>r
 | (d,q)::l,r=>.a (PV.le (υ.get d) q) (OB υ l r)
def GD(υ:PS):List (Nat×Bx)->R->R
 | [],r=>r
 | (d,q)::l,r=>match υ.bo d with
  |some b=>.a (Bx.le b q) (GD υ l r)
  |none=>.jB
def JF(υ σ:PS)(r:R):R:=if Nat.beq υ.n σ.n&&(σ.b.all (fun x=>x.2.nl)||(σ.nl==υ.nl))&&FO σ then OB υ σ.t (GD υ σ.b r)else .jB
def Tr.tail:Tr P K->Tr P K
 | .c _ t=>t
 | .cf _ t=>t
 | .cn _ t=>t
 | .g _ t=>t
 | .bo t=>t
 | .a _ t=>t
 |_=>.nil
def Nj:List Prop->Tr P K->(Tr P K->R)->R
 | [],t,k=>k t
 |p::l,t,k=>.a p (Nj l t.tail k)
def Qr(d:Option Tmp)(t:Tr P K):qq:=match d with
 |some d=>match t with
  | @Tr.c _ _ _ _ jW _ _=>{ cl:=[(d,jW)] }
  | @Tr.cf _ _ _ _ jW _ _=>{ cl:=[(d,jW)] }
  | @Tr.g _ _ _ _ _ _ ve₁ _ _=>{ cl:=[(d,.v ve₁)] }
  | @Tr.cn _ _ _ _ nl T n sz el _ _=>{ nw:=[(d,.row nl T n sz el)] }
  | .bo _=>{ nw:=[(d,.cells 0 [])] }
  |_=>{}
 |none=>{}
def Fy:Tr P K->(Tr P K->R)->R
 | .w p t1 t2,k=>.w p (fun h=>Fy (t1 h) k) (fun h=>Fy (t2 h) k)
 | .x _,_=>.a False .nil
 |t,k=>k t
def Nx(o:Oper)(u:kK)(t:Tr P K)(k:kK->Tr P K->R):R:=match o.dst,t with
 |some d,.o d' (q:=q) _ t'=>if Nat.beq d' d then .a (PV.le u.r q) (k { u with r:=q,jV:=PV.le u.r q::u.jV } t')else k u t
 |_,t=>k u t
def Nq(T:List TI)(gW:Array Oper)(σ:PS)(o:Oper)(t:Tr P K)(k:kK->Tr P K->R):R:=
 if u4 σ o.dst then match y5 gW σ o with
  |some false=>k { r:=.e (.v (.tuple #[])),rd:=(looks gW o).map σ.get } t
  |some true=>Fy t fun t=>match jL P K T (Qr o.dst t) σ o with
   |some u=>Nj u.jV t fun t=>Fy t fun t=>Nx o u t fun u t=>k { u with rd:=(looks gW o).map σ.get } t
   |none=>.jB
  |none=>.jB
 else .jB
def Nu(T:List TI)(gW:Array Oper)(k:List (Oper×kK)->PS->Tr P K->R):List Oper->List (Oper×kK)->PS->Tr P K->R
 | [],us,σ,t=>k us σ t
 |o::l,us,σ,t=>Nq T gW σ o t fun u t'=>Nu T gW k l ((o,u)::us) (σ.app o.dst u) t'
def rh(c:Bool):Tr P K->PS->(Tr P K->PS->R)->R
 | .w p t1 t2,σ,k=>.w p (fun h=>rh c (t1 h) σ k) (fun h=>rh c (t2 h) σ k)
 | .x _,_,_=>.a False .nil
 | .v d (q:=q) _ t,σ,k=>match q with
  | .e x=>if u4 σ (some d)then .a (PV.le (σ.get d) (.e x)) (rh c t (σ.put (some d) (.e x)) k)else .jB
  |_=>.jB
 | .k ts bs t,σ,k=>if c then k (.k ts bs t) σ else if FO (σ.cut ts bs)then rh c t (σ.cut ts bs) k else .jB
 | .z id t,σ,k=>if c then k (.z id t) σ else match σ.bo id with
  |some b=>match b.as with
   |some e=>rh c t (σ.wP id e) k
   |none=>.jB
  |none=>.jB
 | .y s id nl T sz el t,σ,k=>if c then k (.y s id nl T sz el t) σ else match σ.bo id,σ.get s with
  |none,.e (.v (.slice none 0 0))=>if !σ.nl||nl then rh c t (σ.B9 s id (.row nl T 0 sz el)) k else .jB
  |_,_=>.jB
 |t,σ,k=>k t σ
def Oo(c:Code)(σ:PS)(t:Tr P K)(k:Ex->PS->Tr P K->R):R:=match t with
 | @Tr.s _ _ _ σ' τ e _ _ t=>JF σ σ' (.a (Sp P K c σ' (fun e' τ'=>e'=e/\τ'=τ)) (k e τ t))
 |_=>.jB
def Ex.qb:Ex->Ex->Bool
 | .normal,.normal=>true
 | .ret,.ret=>true
 | .exit a,.exit b=>Nat.beq a b
 |_,_=>false
def D8(e:Ex)(τ:PS)(e':Ex)(υ:PS)(_:Tr P K):R:=if Ex.qb e' e then JF υ τ .nil else .jB
def aba:Operand->Nat
 | .tmp t=>2*t
 |_=>1
def jn(c:Nat)(g:PS->Tr P K->(Ex->PS->Tr P K->R)->R)(σ:PS)(t:Tr P K)(k:Ex->PS->Tr P K->R):R:=match t with
 | .j c' τ tj t'=>if Nat.beq c' c then .a (g σ tj (D8 .normal τ)).ok (k .normal τ t')else g σ t k
 |t=>g σ t k
def Yb(f:PS->Tr P K->(Ex->PS->Tr P K->R)->R):Nat->PS->Tr P K->(Ex->PS->Tr P K->R)->R
 | 0,_,_,_=>.jB
 |n+1,σ,t,k=>rh false t σ fun t σ=>f σ t fun e τ t=>match e with
  | .normal=>Yb f n τ t k
  |e=>k e τ t
def uL(T:List TI):Code->PS->Tr P K->(Ex->PS->Tr P K->R)->R
 | .skip,σ,t,k=>k .normal σ t
 | .region _ gW d,σ,t,k=>Nu T gW (fun us τ t=>if !d||Df gW 0 us.reverse then k .normal τ t else .jB) gW.toList [] σ t
 | .seq a b,σ,t,k=>uL T a σ t fun e τ t=>match e with
  | .normal=>uL T b τ t k
  |e=>k e τ t
 | .cond c a b,σ,t,k=>rh true t σ fun t σ=>jn (aba c) (fun σ t k=>rh true t σ fun t σ=>match σ.op c with
  | .e (.v (.bool true))=>uL T a σ t k
  | .e (.v (.bool false))=>uL T b σ t k
  |_=>.jB) σ t k
 | .block id b,σ,t,k=>rh true t σ fun t σ=>jn (2*id+1) (fun σ t k=>uL T b σ t fun e τ t=>match e with
  | .exit i=>if Nat.beq i id then k .normal τ t else k (.exit i) τ t
  |e=>k e τ t) σ t k
 | .exit id,σ,t,k=>rh false t σ fun t σ=>k (.exit id) σ t
 | .ret,σ,t,k=>rh false t σ fun t σ=>k .ret σ t
 | .loop b,σ,t,k=>rh false t σ fun t σ=>match t with
  | .u n t=>Yb (uL T b) n σ t k
  |t=>Oo (.loop b) σ t k
 | .label _,σ,t,k=>k .normal σ t
 | .scope b,σ,t,k=>uL T b σ t k
 |_,_,_,_=>.jB
theorem Vw{t:Tr P K}{k:Tr P K->R}(h:(Fy t k).ok):∃ t',(k t').ok:=by
 induction t with
 |w p t1 t2 EO EP=>
  by_cases hp:p
  .exact EO hp (h.1 hp)
  .exact EP hp (h.2 hp)
 |x hf=>exact hf.elim
 |_=>exact⟨_,h⟩
theorem ahe{l:List Prop}{t:Tr P K}{k:Tr P K->R}(h:(Nj l t k).ok):(∀ q,q ∈ l->q)/\∃ t',(k t').ok:=by
 induction l generalizing t with
 |nil=>exact⟨fun q hq=>by simp at hq,t,h⟩
 |cons p l ih=>
  obtain⟨h1,h2⟩:=ih h.2;refine⟨fun q hq=>?_,h2⟩;rcases cU.1 hq with hq|hq
  .subst hq;exact h.1
  .exact h1 q hq
variable {T:List TI} {gW:Array Oper} {σ:PS} {o:Oper}
theorem ahy{O:qq}{u:kK}{t:Tr P K}{k:kK->Tr P K->R}(hO:O.ov=[])(hu:jL P K T O σ o=some u)(ho:∀ q,q ∈ u.jV->q)(h:(Nx o u t k).ok):
 ∃ O' u' t',tC P K T O' σ o=some u'/\(∀ q,q ∈ u'.jV->q)/\(k u' t').ok:=by
 have plain:(k u t).ok->∃ O' u' t',tC P K T O' σ o=some u'/\(∀ q,q ∈ u'.jV->q)/\(k u' t').ok:=by
  intro h;refine⟨O,u,t,?_,ho,h⟩;unfold tC;rw[hu,hO];cases o.dst<;>rfl
 unfold Nx at h;split at h
 .rename_i d d' p q hpq t' hd
  split at h
  .obtain ⟨h1,h2⟩:=h
   refine⟨⟨O.cl,[(d,q)],O.nw⟩,_,t',?_,fun x hx=>?_,h2⟩
   .unfold tC
    have he:jL P K T ⟨O.cl,[(d,q)],O.nw⟩ σ o=jL P K T O σ o:=by cases O;rfl
    rw[he,hu,hd];simp[look]
   .rcases cU.1 hx with hx|hx
    .subst hx;exact h1
    .exact ho x hx
  .exact plain h
 .exact plain h
theorem ahj{t:Tr P K}{k:kK->Tr P K->R}(h:(Nq T gW σ o t k).ok):∃ u t',(∃ O,qS P K T O gW σ o=some u)/\(∀ q,q ∈ u.jV->q)/\(k u t').ok:=by
 unfold Nq at h;split at h
 .rename_i hi
  split at h
  .rename_i hw
   refine⟨_,t,⟨{},?_⟩,fun q hq=>by simp at hq,h⟩;unfold qS;rw[aR hi,hw]
  .rename_i hw
   obtain⟨t1,h1⟩:=Vw h;split at h1
   .rename_i u hu
    obtain⟨ho,t2,h2⟩:=ahe h1;obtain⟨t2,h2⟩:=Vw h2;obtain⟨O',u',t3,CU,It,h3⟩:=ahy (by
     unfold Qr;cases o.dst with
     |none=>rfl
     |some d=>cases t1<;>rfl) hu ho h2
    refine⟨{ u' with rd:=(looks gW o).map σ.get },t3,⟨O',?_⟩,It,h3⟩;unfold qS;rw[aR hi,hw,CU]
   .exact h1.elim
  .exact h.elim
 .exact h.elim
theorem ahu{k:List (Oper×kK)->PS->Tr P K->R}{l:List Oper}{us:List (Oper×kK)}{t:Tr P K}(h:(Nu T gW k l us σ t).ok):
 ∃ vs τ t',vy P K T gW vs σ τ/\vs.map (·.1)=l/\(∀ x,x ∈ vs->∀ q,q ∈ x.2.jV->q)/\(k (vs.reverse++us) τ t').ok:=by
 induction l generalizing us σ t with
 |nil=>exact⟨[],σ,t,rp.refl σ,rfl,fun x hx=>by simp at hx,h⟩
 |cons o l ih=>
  obtain⟨u,t1,h1,h2,h3⟩:=ahj h;obtain⟨vs,τ,t',k1,k2,k3,k4⟩:=ih h3;refine⟨(o,u)::vs,τ,t',⟨h1,k1⟩,by simp[k2],fun x hx=>?_,by simpa using k4⟩;rcases cU.1 hx with hx|hx
  .subst hx;exact h2
  .exact k3 x hx
theorem PS.le.set{σ:PS}{d:Nat}{x:E}(hd:u4 σ (some d)=true)(h:PV.le (σ.get d) (.e x)):PS.le σ (σ.put (some d) (.e x)):=fun w0 B a w L _ r=>by
 have Bd:d<σ.n:=by simpa[u4,Nat.blt_eq]using hd
 refine⟨L,r.hd,by rw[PS.M5];exact r.hs,fun t=>?_,fun id b hb=>r.hb id b hb,r.hv,r.hn,r.hw,r.hi,r.he,r.hl⟩;rw[PS.Lp];by_cases e:d=t
 .subst e;rw[aR rfl];exact h _ _ _ _ _ (r.ht d)
 .rw [aQ e];exact r.ht t
theorem BK{c:Bool}{t:Tr P K}{σ:PS}{k:Tr P K->PS->R}(h:(rh c t σ k).ok):∃ t' τ,PS.le σ τ/\(k t' τ).ok:=by
 induction t generalizing σ with
 |w p t1 t2 EO EP=>
  by_cases hp:p
  .exact EO hp (h.1 hp)
  .exact EP hp (h.2 hp)
 |k ts bs t ih=>
  simp only[rh]at h;split at h
  .exact ⟨_,σ,PS.le.refl σ,h⟩
  split at h
  .rename_i hr
   obtain⟨t',τ,h1,h2⟩:=ih h;exact⟨t',τ,(PS.le.cut ts bs hr).trans h1,h2⟩
  .exact h.elim
 |v d h0 t ih=>
  simp only[rh]at h;split at h
  .rename_i x
   split at h
   .rename_i hd
    obtain⟨t',τ,h1,h2⟩:=ih h.2;exact⟨t',τ,(PS.le.set hd h.1).trans h1,h2⟩
   .exact h.elim
  .exact h.elim
 |z id t ih=>
  simp only[rh]at h;split at h
  .exact ⟨_,σ,PS.le.refl σ,h⟩
  split at h
  .rename_i b hb
   split at h
   .rename_i e he
    obtain⟨t',τ,h1,h2⟩:=ih h;exact⟨t',τ,(PS.le.freeze id hb he).trans h1,h2⟩
   .exact h.elim
  .exact h.elim
 |y s id nl T sz el t ih=>
  simp only[rh]at h;split at h
  .exact ⟨_,σ,PS.le.refl σ,h⟩
  split at h
  .rename_i hb hg
   split at h
   .rename_i hn
    obtain⟨t',τ,h1,h2⟩:=ih h;exact⟨t',τ,(PS.le.YS s id hb hg (fun e=>by rw[e]at hn;simpa using hn)).trans h1,h2⟩
   .exact h.elim
  .exact h.elim
 |x hf=>exact hf.elim
 |_=>exact⟨_,σ,PS.le.refl σ,h⟩
theorem ala{υ:PS}{l:List (Nat×PV)}{r:R}(h:(OB υ l r).ok):wG υ l/\r.ok:=by
 induction l with
 |nil=>exact⟨trivial,h⟩
 |cons x l ih=>obtain⟨d,q⟩:=x;exact⟨⟨h.1,(ih h.2).1⟩,(ih h.2).2⟩
theorem ZH{υ:PS}{l:List (Nat×Bx)}{r:R}(h:(GD υ l r).ok):vv υ l/\r.ok:=by
 induction l with
 |nil=>exact⟨trivial,h⟩
 |cons x l ih=>
  obtain⟨d,q⟩:=x;simp only[GD]at h;split at h
  .rename_i b hb
   exact⟨⟨⟨b,hb,h.1⟩,(ih h.2).1⟩,(ih h.2).2⟩
  .exact h.elim
theorem Xx{υ σ:PS}{r:R}(h:(JF υ σ r).ok):PS.le υ σ/\r.ok:=by
 unfold JF at h;split at h
 .rename_i hc
  simp only[bB,fF,gp]at hc;obtain⟨⟨h1,h2⟩,h3⟩:=hc;obtain⟨h4,h5⟩:=ala h;obtain⟨h6,h7⟩:=ZH h5;refine⟨?_,h7⟩;rcases h2 with h2|h2
  .exact PS.le.afR (mN.1 h1) h2 h3 h4 h6
  .exact PS.le.pL (mN.1 h1) h2 h3 h4 h6
 .exact h.elim
theorem aj1(hT:mB P T){w0:World}{B:Nat->Prop}{a:Act}{w:World}{L:Lk}(g:Gd P K w0 B){us:List (Oper×kK)}{τ:PS}{Q:Exit->Act->World->Prop}(h:vy P K T gW us σ τ)(ho:∀ x,x ∈ us->∀ q,q ∈ x.2.jV->q)
 (r:jA w0 B σ a w L) (hq:∀ a' w' L',jA w0 B τ a' w' L'->Q .normal a' w'):wpList P gW Q (us.map (·.1)) a w:=by
 induction us generalizing σ a w L with
 |nil=>exact hq a w L (r.qb h)
 |cons x us ih=>
  obtain⟨⟨O,h1⟩,h2⟩:=h;rw[eR];unfold wpList;rcases Rv hT g r h1 (ho x aj) (wpList P gW Q (us.map (·.1))) Q (fun a' w' L' hr=>ih h2 (fun y hy=>ho y (by simp[hy])) hr)with⟨p1,p2⟩|⟨p1,p2⟩
  .rw [aR p1];exact .inl p2
  .rw [aQ (by rw[p1];simp)];exact p2
theorem ajr(hT:mB P T)(hm:P.follows .mixedOrders=true){w0:World}{B:Nat->Prop}{a:Act}{w:World}{L:Lk}(g:Gd P K w0 B){id:Nat}{draw:Bool}{us:List (Oper×kK)}{τ:PS}{Q:Exit->Act->World->Prop}
 (h:vy P K T gW us σ τ) (hl:us.map (·.1)=gW.toList) (ho:∀ x,x ∈ us->∀ q,q ∈ x.2.jV->q) (hp:(!draw||Df gW 0 us)=true) (r:jA w0 B σ a w L)
 (hq:∀ a' w' L',jA w0 B τ a' w' L'->Q .normal a' w'):(Code.region id gW draw).wp P Q a w:=by
 cases draw with
 |false=>exact wp_region_list (by rw[<-hl];exact aj1 hT g h ho r hq)
 |true=>
  obtain⟨R,r1,r2,r3⟩:=af1 hl (by simpa using hp);refine wp_region_any hm (YW hT g hq gW.size (Array.replicate gW.size false) R σ a w.drew L r2 aj r3 (fun x hx=>ho x.2 ?_) (by rw[r1];exact h) r.drew);rw[<-r1];exact cY.2 ⟨x,hx,rfl⟩
theorem akE{c:Code}{t:Tr P K}{k:Ex->PS->Tr P K->R}(h:(Oo c σ t k).ok):Sp P K c σ (fun e τ=>∃ t',(k e τ t').ok):=by
 unfold Oo at h;split at h
 .obtain ⟨h1,h2,h3⟩:=Xx h
  exact Sp.pre h1 (h2.mono fun e τ ⟨q1,q2⟩=>by subst q1 q2;exact⟨_,h3⟩)
 .exact h.elim
theorem Ex.aj2{a b:Ex}(h:Ex.qb a b=true):a=b:=by
 cases a<;>cases b<;>first|rfl|(cases h;done)|exact congrArg Ex.exit (mN.1 h)
theorem Rl{e e':Ex}{τ υ:PS}{t:Tr P K}(h:(D8 e τ e' υ t).ok):e'=e/\PS.le υ τ:=by
 unfold D8 at h;split at h
 .rename_i he;exact⟨Ex.aj2 he,(Xx h).1⟩
 .exact h.elim
theorem Ua{c:Code}{cb:Nat}{g:PS->Tr P K->(Ex->PS->Tr P K->R)->R}(hg:∀ σ t k,(g σ t k).ok->Sp P K c σ (fun e τ=>∃ t',(k e τ t').ok)){σ:PS}{t:Tr P K}{k:Ex->PS->Tr P K->R}(h:(jn cb g σ t k).ok):
 Sp P K c σ (fun e τ=>∃ t',(k e τ t').ok):=by
 unfold jn at h;split at h
 .rename_i c' τ tj t
  split at h
  .refine (hg _ _ _ h.1).post fun e υ ⟨t',ht⟩=>?_
   obtain⟨he,hl⟩:=Rl ht;exact⟨τ,hl,t,by rw[he];exact h.2⟩
  .exact hg _ _ _ h
 .exact hg _ _ _ h
def vz(P:Program)(K:World->Prop)(b:Code)(σ:PS)(Q:Ex->PS->Prop):Prop:=
 ∀ (w0:World) (B:Nat->Prop) (a:Act) (w:World) (L:Lk),Gd P K w0 B->jA w0 B σ a w L->∀ bf k cs,
  ∃ e a' w',(∃ ex τ L',e=Ex.to ex/\Q ex τ/\jA w0 B τ a' w' L')/\Arrives P (lone (bf.at a (.code b :: .inLoop b::k)) cs w) bf k cs e a' w'
theorem vz.loop{b:Code}{σ:PS}{Q:Ex->PS->Prop}(h:vz P K b σ Q):Sp P K (.loop b) σ Q:=by
 intro w0 B a w L g r bf k cs;obtain⟨e,a',w',hq,vQ⟩:=h w0 B a w L g r bf k cs;exact⟨e,a',w',hq,.of_steps (.one step_loop) vQ⟩
theorem vz.pre{b:Code}{σ τ:PS}{Q:Ex->PS->Prop}(h:PS.le σ τ)(k:vz P K b τ Q):vz P K b σ Q:=fun w0 B a w L g r=>
 let⟨L',r'⟩:=h w0 B a w L (fun b hb=>(g.hB b hb).1) r;k w0 B a w L' g r'
theorem vz.step{b:Code}{σ:PS}{Q:Ex->PS->Prop}(h:Sp P K b σ (fun e τ=>(e = .normal/\vz P K b τ Q)\/(e ≠ .normal/\Q e τ))):vz P K b σ Q:=by
 intro w0 B a w L g r bf k cs;obtain⟨e,a₁,w₁,⟨ex,υ,L2,rfl,hq,nu⟩,vQ⟩:=h w0 B a w L g r bf (.inLoop b::k) cs;rcases hq with⟨rfl,hs⟩|⟨ks,hq⟩
 .obtain ⟨e₂,a₂,w₂,Mi,LJ⟩:=hs w0 B a₁ w₁ L2 g nu bf k cs
  exact⟨e₂,a₂,w₂,Mi,.of_steps (Steps.trans vQ (.one step_inLoop)) LJ⟩
 .cases ex with
  |normal=>exact absurd rfl ks
  |exit i=>exact⟨_,a₁,w₁,⟨.exit i,υ,L2,rfl,hq,nu⟩,.pass (x:=.inLoop b) rfl (fun _ _=>.inl (by simp[Ex.to])) vQ⟩
  |ret=>exact⟨_,a₁,w₁,⟨.ret,υ,L2,rfl,hq,nu⟩,.pass (x:=.inLoop b) rfl (fun _ _=>.inl (by simp[Ex.to])) vQ⟩
theorem K3(hT:mB P T)(hm:P.follows .mixedOrders=true){c:Code}{σ:PS}{t:Tr P K}{k:Ex->PS->Tr P K->R}(h:(uL T c σ t k).ok):Sp P K c σ (fun e τ=>∃ t',(k e τ t').ok):=by
 induction c generalizing σ t k with
 |skip=>exact fun w0 B a w L g r=>wp_skip ⟨.normal,_,L,rfl,⟨t,h⟩,r⟩
 |region id gW d=>
  obtain⟨vs,τ,t',h1,h2,h3,h4⟩:=ahu h;split at h4
  .rename_i hp
   simp only[List.append_nil,List.reverse_reverse]at hp;exact fun w0 B a w L g r=>ajr hT hm g h1 h2 h3 hp r fun a' w' L' hr=>⟨.normal,τ,L',rfl,⟨t',h4⟩,hr⟩
  .exact h4.elim
 |seq x y Mw Mx=>
  intro w0 B a w L g r;refine wp_seq (Code.wp_mono ?_ (Mw h w0 B a w L g r));rintro ex a' w' ⟨e1,τ1,L',rfl,⟨t',ht⟩,hr⟩;cases e1 with
  |normal=>exact Mx ht w0 B a' w' L' g hr
  |exit i=>exact⟨.exit i,τ1,L',rfl,⟨t',ht⟩,hr⟩
  |ret=>exact⟨.ret,τ1,L',rfl,⟨t',ht⟩,hr⟩
 |cond c x y Mw Mx=>
  obtain⟨t1,τ,hle,h1⟩:=BK h;refine Sp.pre hle (Ua (fun σ t k h=>?_) h1);obtain⟨t1,τ,hle,h1⟩:=BK h;refine Sp.pre hle ?_;split at h1
  .rename_i hc
   intro w0 B a w L g r;have hv:=r.op c;rw[hc]at hv;exact wp_cond_true (iG.kJ hv) (Mw h1 w0 B a w L g r)
  .rename_i hc
   intro w0 B a w L g r;have hv:=r.op c;rw[hc]at hv;exact wp_cond_false (iG.kJ hv) (Mx h1 w0 B a w L g r)
  .exact h1.elim
 |block id b ih=>
  obtain⟨t1,τ,hle,h1⟩:=BK h;refine Sp.pre hle (Ua (fun σ t k h=>?_) h1);intro w0 B a w L g r;refine wp_block (Code.wp_mono ?_ (ih h w0 B a w L g r));rintro ex a' w' ⟨e1,τ1,L',rfl,⟨t',ht⟩,hr⟩;cases e1 with
  |normal=>exact⟨.normal,_,L',rfl,⟨t',ht⟩,hr⟩
  |ret=>exact⟨.ret,_,L',rfl,⟨t',ht⟩,hr⟩
  |exit i=>
   simp only at ht;show Exit.inBlock id _ (.exit i) a' w';split at ht
   .rename_i hi
    have hi:=mN.1 hi;subst hi;simp only[Exit.inBlock,bk];exact⟨.normal,_,L',rfl,⟨t',ht⟩,hr⟩
   .rename_i hi
    have hi:i≠id:=fun e=>hi (mN.2 e)
    simp only[Exit.inBlock,hi,a6];exact⟨.exit i,_,L',rfl,⟨t',ht⟩,hr⟩
 |label l=>exact fun w0 B a w L g r=>wp_label ⟨.normal,_,L,rfl,⟨t,h⟩,r⟩
 |scope b ih=>
  intro w0 B a w L g r;refine wp_scope_straight (Code.wp_mono ?_ (ih h w0 B a w L g r));rintro ex a' w' ⟨e1,τ1,L',rfl,⟨t',ht⟩,hr⟩;cases e1 with
  |normal=>exact⟨.normal,τ1,L',rfl,⟨t',ht⟩,hr⟩
  |ret=>exact⟨.ret,τ1,L',rfl,⟨t',ht⟩,hr⟩
  |exit i=>exact⟨.exit i,τ1,L',rfl,⟨t',ht⟩,hr⟩
 |exit id=>
  obtain⟨t1,τ,hle,h1⟩:=BK h;exact Sp.pre hle fun w0 B a w L g r=>wp_exit ⟨.exit id,_,L,rfl,⟨t1,h1⟩,r⟩
 |ret=>
  obtain⟨t1,τ,hle,h1⟩:=BK h;exact Sp.pre hle fun w0 B a w L g r=>wp_ret ⟨.ret,_,L,rfl,⟨t1,h1⟩,r⟩
 |loop b ih=>
  obtain⟨t1,τ,hle,h1⟩:=BK h;refine Sp.pre hle ?_;split at h1
  .rename_i n t
   clear hle h;refine vz.loop ?_
   induction n generalizing τ t with
   |zero=>exact h1.elim
   |succ n ihn=>
    obtain⟨t2,τ2,hle,h1⟩:=BK h1;refine vz.pre hle (vz.step ((ih h1).mono fun e υ ⟨t',ht⟩=>?_));cases e with
    |normal=>exact .inl ⟨rfl,ihn _ _ ht⟩
    |exit i=>exact .inr ⟨aj,t',ht⟩
    |ret=>exact .inr ⟨aj,t',ht⟩
  .exact akE h1
 |_=>exact h.elim
theorem Sp.tr(hT:mB P T)(hm:P.follows .mixedOrders=true){c:Code}{σ τ:PS}{e:Ex}(t:Tr P K)(h:uL T c σ t (D8 e τ)=t.ex fun t=>DA τ t .nil):
 Sp P K c σ (fun e' τ'=>e'=e/\τ'=τ):=by
 have hk:=Tr.Lc (fin:=fun t=>DA τ t .nil) (fun t=>Ot trivial) t;rw[<-h]at hk;refine(K3 hT hm hk).post fun e' υ ⟨t',ht⟩=>?_
 obtain⟨he,hl⟩:=Rl ht;exact⟨τ,hl,he,rfl⟩
def RJ(T:List TI)(fn:Func)(jW:E)(e:Ex)(τ:PS)(_:Tr P K):R:=match e with
 | .exit _=>.jB
 |_=>match Js T fn τ with
  |some r=>.a (E.le r jW) .nil
  |none=>.jB
def NS(T:List TI)(fn:Func)(nl:Bool)(args:List E)(jW:E)(t:Tr P K):R:=match fn.body with
 |some c=>if Nat.ble args.length fn.ntmps then uL T c (Ad fn nl args) t (RJ T fn jW)else .jB
 |none=>.jB
theorem PC.OE(hT:mB P T)(hm:P.follows .mixedOrders=true)(hp:∀ w w',K w->Below w.heap.size w w'->K w'){f:FuncId}{fn:Func}{args:List E}{jW:E}(vS:∀ (vs:Array Value) (w:World),(callFunc f vs).run P w = .ok (.enter f vs) w)
 (hf:P.funcs[f]? = some fn) (nl:Bool) (t:Tr P K) (h:NS T fn nl args jW t=t.ex fun _=>.a (E.le jW jW) .nil):PC P K f args jW:=by
 have hk:=Tr.Lc (fin:=fun _=>.a (E.le jW jW) .nil) (fun t=>⟨E.le.refl jW,trivial⟩) t;rw[<-h]at hk;unfold NS at hk;split at hk
 .rename_i c hb
  split at hk
  .rename_i hn
   refine PC.M1 hT hm hp vS hf hb (cI hn) nl ((K3 hT hm hk).mono fun e τ ⟨t',ht⟩=>?_);unfold RJ at ht;split at ht
   .exact ht.elim
   .rename_i ks
    split at ht
    .rename_i r hr
     refine⟨?_,r,hr,ht.1⟩;cases e with
     |normal=>exact .inr rfl
     |ret=>exact .inl rfl
     |exit i=>exact absurd rfl (ks i)
    .exact ht.elim
  .exact hk.elim
 .exact hk.elim
def RH(fn:Func)(b:Bx)(e:Ex)(τ:PS)(_:Tr P K):R:=match e with
 | .exit _=>.jB
 |_=>match fn.results.toList with
  | [.tmp t]=>match τ.get t with
   | .own id=>match τ.bo id with
    |some c=>.a (Bx.le c b) .nil
    |none=>.jB
   |_=>.jB
  |_=>.jB
def NR(T:List TI)(fn:Func)(args:List E)(b:Bx)(t:Tr P K):R:=match fn.body with
 |some c=>if Nat.ble args.length fn.ntmps then uL T c (Ad fn true args) t (RH fn b)else .jB
 |none=>.jB
theorem uB.OE(hT:mB P T)(hm:P.follows .mixedOrders=true)(hp:∀ w w',K w->Below w.heap.size w w'->K w'){f:FuncId}{fn:Func}{args:List E}{nl:Bool}{T0:TypeId}{n sz:Nat}{el:Nat->Nat->E}(vS:∀ (vs:Array Value) (w:World),(callFunc f vs).run P w = .ok (.enter f vs) w)
 (hf:P.funcs[f]? = some fn) (t:Tr P K) (h:NR T fn args (.row nl T0 n sz el) t=t.ex fun _=>.a (Bx.le (.row nl T0 n sz el) (.row nl T0 n sz el)) .nil):uB P K f args nl T0 n sz el:=by
 have hk:=Tr.Lc (fin:=fun _=>.a (Bx.le (.row nl T0 n sz el) (.row nl T0 n sz el)) .nil) (fun t=>⟨Bx.le.refl _,trivial⟩) t;rw[<-h]at hk;unfold NR at hk;split at hk
 .rename_i c hb
  split at hk
  .rename_i hn
   refine uB.M1 hT hm hp vS hf hb (cI hn) true ((K3 hT hm hk).mono fun e τ ⟨t',ht⟩=>?_);unfold RH at ht;split at ht
   .exact ht.elim
   .rename_i ks
    split at ht
    .rename_i t0 hr
     split at ht
     .rename_i id hg
      split at ht
      .rename_i c' hc
       refine⟨?_,t0,id,c',hr,hg,hc,fun bs br L w hk=>ht.1.2 _ _ _ _ _ hk⟩;cases e with
       |normal=>exact .inr rfl
       |ret=>exact .inl rfl
       |exit i=>exact absurd rfl (ks i)
      .exact ht.elim
     .exact ht.elim
    .exact ht.elim
  .exact hk.elim
 .exact hk.elim
theorem Sp.jv{b:Code}{e:Ex}{τ:PS}(f:Nat->PS)(lo hi:Nat)(h0:lo<=hi)(go:∀ x,(lo<=x/\x<=hi)->x<hi->Sp P K b (f x) (fun e' υ=>e' = .normal/\υ=f (x+1)))
 (out:(lo<=hi/\hi<=hi)->Sp P K b (f hi) (fun e' υ=>e'=e/\υ=τ)) (he:e ≠ .normal):Sp P K (.loop b) (f lo) (fun e' υ=>e'=e/\υ=τ):=by
 refine Sp.fam f (fun x=>lo<=x/\x<=hi) (fun x=>hi-x) (fun x hx=>?_) lo ⟨aU _,h0⟩ (PS.le.refl _);rcases Nat.lt_or_eq_of_le hx.2 with iD|heq
 .exact Sp.ac0 (x+1) (go x hx iD) ⟨ae,ae⟩ ae (PS.le.refl _)
 .subst heq
  exact Sp.ac1 (out hx) he (PS.le.refl _)
def iq(z:Int)(h:-9223372036854775808<=z/\z<=9223372036854775807):Tr P K->Tr P K:=.a (p:=ku .i64 z) h
def pd(z:Int)(h:0<=z/\z<=18446744073709551615):Tr P K->Tr P K:=.a (p:=ku .u64 z) h
def iX(z:Int)(n:Nat)(h:0<=z/\z<n):Tr P K->Tr P K:=.a h
def tB(d:Nat){a b:Bool}(h:a=b):Tr P K->Tr P K:=.o d (PV.le.bool h)
def tT(d:Nat)(p:Prop)[Decidable p](h:p):Tr P K->Tr P K:=.o d (PV.le.bool (aS h))
def tF(d:Nat)(p:Prop)[Decidable p](h:¬p):Tr P K->Tr P K:=.o d (PV.le.bool (aT h))
theorem uG{b:Bool}(h:b=true):(!b)=false:=by rw[h];rfl
theorem uF{b:Bool}(h:b=false):(!b)=true:=by rw[h];rfl
def rQ(p q:E)(h:p=q):Tr P K:=.r (E.le.iS h)
def rR(q:E){p:E}(h:E.le p q):Tr P K:=.r h
def chain(l:List (Tr P K->Tr P K))(t:Tr P K):Tr P K:=l.foldr (fun f t=>f t) t
end
end Go.Proofs.YtdgnpeddgdclhaaGreatDoor.Pu
namespace Go.Proofs.YtdgnpeddgdclhaaGreatDoor
open Go.RowKit Fp Pu
theorem tr(nl:Bool){f:FuncId}{fn:Func}{args:List E}{jW:E}(vS:∀ (vs:Array Value) (w:World),(callFunc f vs).run Tryz.prog w = .ok (.enter f vs) w)
 (hf:Tryz.prog.funcs[f]? = some fn) (t:Tr Tryz.prog Tb) (h:NS TT fn nl args jW t=t.ex fun _=>.a (E.le jW jW) .nil):gV f args jW:=
 PC.OE J7 mixed O7 vS hf nl t h
theorem iB{c:Code}{σ τ:PS}{e:Ex}(t:Tr Tryz.prog Tb)(h:uL TT c σ t (D8 e τ)=t.ex fun t=>DA τ t .nil):
 Sp Tryz.prog Tb c σ (fun e' τ'=>e'=e/\τ'=τ):=Sp.tr J7 mixed t h
abbrev jq(k:Nat)(fn:Func)(σ:PS)(e:Ex)(τ:PS):Prop:=Sp Tryz.prog Tb (.loop (Z8 k fn)) σ (fun e' τ'=>e'=e/\τ'=τ)
open Go.RowKit Fp Pu
def TU(nl:Bool)(n N:Nat)(el:Nat->Nat->E)(g:FuncId)(cap:List E)(i:Nat):PS:=⟨19,false,[(8,.e (iP i)),(7,.e (iP n)),(0,.e (.sl nl n 1 el)),(1,.e (.fn g cap))],[]⟩
def TS(nl:Bool)(n:Nat)(el:Nat->Nat->E)(g:FuncId)(cap:List E)(i:Nat):PS:=⟨19,false,[(8,.e (iP i)),(7,.e (iP n)),(0,.e (.sl nl n 1 el)),(1,.e (.fn g cap))],[]⟩
def Uf(nl:Bool)(n:Nat)(el:Nat->Nat->E)(g:FuncId)(cap:List E)(i:Nat):PS:=⟨19,false,[(8,.e (iP i)),(7,.e (iP n)),(0,.e (.sl nl n 1 el)),(1,.e (.fn g cap))],[]⟩
def T9(nl:Bool)(n N:Nat)(el:Nat->Nat->E)(g:FuncId)(cap:List E)(i:Nat):PS:=⟨19,false,[(8,.e (iP i)),(7,.e (iP n)),(0,.e (.sl nl n 7 el)),(1,.e (.fn g cap))],[]⟩
def T8(nl:Bool)(n:Nat)(el:Nat->Nat->E)(g:FuncId)(cap:List E)(i:Nat):PS:=⟨19,false,[(8,.e (iP i)),(7,.e (iP n)),(0,.e (.sl nl n 7 el)),(1,.e (.fn g cap))],[]⟩
def WO(nl:Bool)(n:Nat)(el:Nat->Nat->E)(g:FuncId)(cap:List E)(i:Nat):PS:=⟨19,false,[(8,.e (iP i)),(7,.e (iP n)),(0,.e (.sl nl n 1 el)),(1,.e (.fn g cap))],[]⟩
theorem qB{p:Nat->Bool}{n:Nat}(h:∃ i,i<n/\p i=true):∃ N,N<n/\p N=true/\∀ i,i<N->p i=false:=by
 induction n with
 |zero=>obtain⟨i,h1,_⟩:=h;omega
 |succ n ih=>
  by_cases hn:∃ i,i<n/\p i=true
  .obtain ⟨N,h1,h2,h3⟩:=ih hn;exact⟨N,ae,h2,h3⟩
  .obtain ⟨i,h1,h2⟩:=h
   have:i=n:=by
    by_cases q:i=n
    .exact q
    .exact absurd ⟨i,ae,h2⟩ hn
   subst this;exact⟨i,h1,h2,fun j hj=>by simpa using fun q=>hn ⟨j,hj,q⟩⟩
theorem afu(nl:Bool)(n:Nat)(el:Nat->Nat->E)(g:FuncId)(cap:List E)(p:Nat->Bool)(hp:∀ i,i<n->gV g ((el i 0)::cap) (bP (p i)))(N:Nat)(hl:n<=1000000)(mE:N<n)(iH:∀ i,i<N->p i=false)(hN:p N=true):gV 170 [.sl nl n 1 el,.fn g cap] (iP N):=by
 exact tr false Tryz.call170 Tryz.func170 (chain [.s (Sp.jv (TU nl n N el g cap) 0 N ae (fun i hi pG=>by
    exact iB (chain [tT 9 ((i:Int)<(n:Int)) ae,iX ((i:Int)) (n) ae,.c (hp i ae:gV g ((el i 0)::cap) _),tB 16 (iH i ae:(p i)=false),iq ((i:Int)+1) ae]<|.nil) ah)
  (fun hi=>by
    exact iB (chain [tT 9 ((N:Int)<(n:Int)) ae,iX ((N:Int)) (n) ae,.c (hp N ae:gV g ((el N 0)::cap) _),tB 16 (hN:(p N)=true)]<|.nil) ah) ak:jq 2 Tryz.f170 (TU nl n N el g cap 0) .ret ⟨19,false,[(4,.e (iP N))],[]⟩) .nil]<|.nil) ah 
theorem afw(nl:Bool)(n:Nat)(el:Nat->Nat->E)(g:FuncId)(cap:List E)(p:Nat->Bool)(hp:∀ i,i<n->gV g ((el i 0)::cap) (bP (p i)))(hl:n<=1000000)(iH:∀ i,i<n->p i=false):gV 170 [.sl nl n 1 el,.fn g cap] (iP (-1)):=by
 exact tr false Tryz.call170 Tryz.func170 (chain [.s (Sp.jv (TS nl n el g cap) 0 n ae (fun i hi pG=>by
    exact iB (chain [tT 9 ((i:Int)<(n:Int)) ae,iX ((i:Int)) (n) ae,.c (hp i ae:gV g ((el i 0)::cap) _),tB 16 (iH i ae:(p i)=false),iq ((i:Int)+1) ae]<|.nil) ah)
  (fun hi=>by
    exact iB (chain [tF 9 ((n:Int)<(n:Int)) ae]<|.nil) ah) ak:jq 2 Tryz.f170 (TS nl n el g cap 0) (.exit 0) ⟨19,false,[],[]⟩) .nil]<|.nil) ah 
theorem afv(nl:Bool)(n:Nat)(el:Nat->Nat->E)(g:FuncId)(cap:List E)(p:Nat->Bool)(hp:∀ i,i<n->gV g ((el i 0)::cap) (bP (p i)))(N:Nat)(hl:n<=1000000)(mE:N<n)(iH:∀ i,i<N->p i=false)(hN:p N=true):gV 134 [.sl nl n 1 el,.fn g cap] (bP true):=by
 exact tr false Tryz.call134 Tryz.func134 (chain [.c (afu nl n el g cap p hp N hl mE iH hN:gV 170 [(.sl nl n 1 el),(.fn g cap)] _),tT 8 (0<=(N:Int)) ae]<|.nil) ah 
theorem MD(nl:Bool)(n:Nat)(el:Nat->Nat->E)(g:FuncId)(cap:List E)(p:Nat->Bool)(hp:∀ i,i<n->gV g ((el i 0)::cap) (bP (p i)))(hl:n<=1000000)(iH:∀ i,i<n->p i=false):gV 134 [.sl nl n 1 el,.fn g cap] (bP false):=by
 exact tr false Tryz.call134 Tryz.func134 (chain [.c (afw nl n el g cap p hp hl iH:gV 170 [(.sl nl n 1 el),(.fn g cap)] _),tB 8 (ag:(decide ((0:Int)<=(-1)))=false)]<|.nil) ah 
theorem aft(nl:Bool)(n:Nat)(el:Nat->Nat->E)(g:FuncId)(cap:List E)(p:Nat->Bool)(hp:∀ i,i<n->gV g ((el i 0)::cap) (bP (p i)))(hl:n<=1000000):gV 134 [.sl nl n 1 el,.fn g cap] (bP ((List.range n).any p)):=by
 by_cases h:∃ i,i<n/\p i=true
 .obtain ⟨N,h1,h2,h3⟩:∃ N,N<n/\p N=true/\∀ i,i<N->p i=false:=qB h
  refine(afv nl n el g cap p hp N hl h1 h3 h2).jW (.iS ?_);rw[di.2 ⟨N,bI.2 h1,h2⟩]
 .refine (MD nl n el g cap p hp hl fun i hi=>by simpa using fun q=>h ⟨i,hi,q⟩).jW (.iS ?_)
  rw[dW.2 fun i hi q=>h ⟨i,bI.1 hi,q⟩]
theorem agh(nl:Bool)(n:Nat)(el:Nat->Nat->E)(g:FuncId)(cap:List E)(p:Nat->Bool)(hp:∀ i,i<n->gV g ((el i 0)::cap) (bP (p i)))(hl:n<=1000000)(iH:∀ i,i<n->p i=false):gV 233 [.sl nl n 1 el,.fn g cap] (iP (-1)):=by
 exact tr false Tryz.call233 Tryz.func233 (chain [.s (Sp.jv (Uf nl n el g cap) 0 n ae (fun i hi pG=>by
    exact iB (chain [tT 9 ((i:Int)<(n:Int)) ae,iX ((i:Int)) (n) ae,.c (hp i ae:gV g ((el i 0)::cap) _),tB 16 (iH i ae:(p i)=false),iq ((i:Int)+1) ae]<|.nil) ah)
  (fun hi=>by
    exact iB (chain [tF 9 ((n:Int)<(n:Int)) ae]<|.nil) ah) ak:jq 2 Tryz.f233 (Uf nl n el g cap 0) (.exit 0) ⟨19,false,[],[]⟩) .nil]<|.nil) ah 
theorem Ui(nl:Bool)(n:Nat)(el:Nat->Nat->E)(g:FuncId)(cap:List E)(p:Nat->Bool)(hp:∀ i,i<n->gV g ((el i 0)::cap) (bP (p i)))(hl:n<=1000000)(iH:∀ i,i<n->p i=false):gV 202 [.sl nl n 1 el,.fn g cap] (bP false):=by
 exact tr false Tryz.call202 Tryz.func202 (chain [.c (agh nl n el g cap p hp hl iH:gV 233 [(.sl nl n 1 el),(.fn g cap)] _),tB 8 (ag:(decide ((0:Int)<=(-1)))=false)]<|.nil) ah 
theorem afM(nl:Bool)(n:Nat)(el:Nat->Nat->E)(g:FuncId)(cap:List E)(p:Nat->Bool)(hp:∀ i,i<n->gV g ((.agg [(el i 0),(el i 1),(el i 2),(el i 3),(el i 4),(el i 5),(el i 6)])::cap) (bP (p i)))(N:Nat)(hl:n<=1000000)(mE:N<n)(iH:∀ i,i<N->p i=false)(hN:p N=true):gV 51 [.sl nl n 7 el,.fn g cap] (iP N):=by
 exact tr false Tryz.call51 Tryz.func51 (chain [.s (Sp.jv (T9 nl n N el g cap) 0 N ae (fun i hi pG=>by
    exact iB (chain [tT 9 ((i:Int)<(n:Int)) ae,iX ((i:Int)) (n) ae,.c (hp i ae:gV g ((.agg [(el i 0),(el i 1),(el i 2),(el i 3),(el i 4),(el i 5),(el i 6)])::cap) _),tB 16 (iH i ae:(p i)=false),iq ((i:Int)+1) ae]<|.nil) ah)
  (fun hi=>by
    exact iB (chain [tT 9 ((N:Int)<(n:Int)) ae,iX ((N:Int)) (n) ae,.c (hp N ae:gV g ((.agg [(el N 0),(el N 1),(el N 2),(el N 3),(el N 4),(el N 5),(el N 6)])::cap) _),tB 16 (hN:(p N)=true)]<|.nil) ah) ak:jq 2 Tryz.f51 (T9 nl n N el g cap 0) .ret ⟨19,false,[(4,.e (iP N))],[]⟩) .nil]<|.nil) ah 
theorem afO(nl:Bool)(n:Nat)(el:Nat->Nat->E)(g:FuncId)(cap:List E)(p:Nat->Bool)(hp:∀ i,i<n->gV g ((.agg [(el i 0),(el i 1),(el i 2),(el i 3),(el i 4),(el i 5),(el i 6)])::cap) (bP (p i)))(hl:n<=1000000)(iH:∀ i,i<n->p i=false):gV 51 [.sl nl n 7 el,.fn g cap] (iP (-1)):=by
 exact tr false Tryz.call51 Tryz.func51 (chain [.s (Sp.jv (T8 nl n el g cap) 0 n ae (fun i hi pG=>by
    exact iB (chain [tT 9 ((i:Int)<(n:Int)) ae,iX ((i:Int)) (n) ae,.c (hp i ae:gV g ((.agg [(el i 0),(el i 1),(el i 2),(el i 3),(el i 4),(el i 5),(el i 6)])::cap) _),tB 16 (iH i ae:(p i)=false),iq ((i:Int)+1) ae]<|.nil) ah)
  (fun hi=>by
    exact iB (chain [tF 9 ((n:Int)<(n:Int)) ae]<|.nil) ah) ak:jq 2 Tryz.f51 (T8 nl n el g cap 0) (.exit 0) ⟨19,false,[],[]⟩) .nil]<|.nil) ah 
theorem afN(nl:Bool)(n:Nat)(el:Nat->Nat->E)(g:FuncId)(cap:List E)(p:Nat->Bool)(hp:∀ i,i<n->gV g ((.agg [(el i 0),(el i 1),(el i 2),(el i 3),(el i 4),(el i 5),(el i 6)])::cap) (bP (p i)))(N:Nat)(hl:n<=1000000)(mE:N<n)(iH:∀ i,i<N->p i=false)(hN:p N=true):gV 17 [.sl nl n 7 el,.fn g cap] (bP true):=by
 exact tr false Tryz.call17 Tryz.func17 (chain [.c (afM nl n el g cap p hp N hl mE iH hN:gV 51 [(.sl nl n 7 el),(.fn g cap)] _),tT 8 (0<=(N:Int)) ae]<|.nil) ah 
theorem Af(nl:Bool)(n:Nat)(el:Nat->Nat->E)(g:FuncId)(cap:List E)(p:Nat->Bool)(hp:∀ i,i<n->gV g ((.agg [(el i 0),(el i 1),(el i 2),(el i 3),(el i 4),(el i 5),(el i 6)])::cap) (bP (p i)))(hl:n<=1000000)(iH:∀ i,i<n->p i=false):gV 17 [.sl nl n 7 el,.fn g cap] (bP false):=by
 exact tr false Tryz.call17 Tryz.func17 (chain [.c (afO nl n el g cap p hp hl iH:gV 51 [(.sl nl n 7 el),(.fn g cap)] _),tB 8 (ag:(decide ((0:Int)<=(-1)))=false)]<|.nil) ah 
theorem ML(nl:Bool)(n:Nat)(el:Nat->Nat->E)(g:FuncId)(cap:List E)(p:Nat->Bool)(hp:∀ i,i<n->gV g ((.agg [(el i 0),(el i 1),(el i 2),(el i 3),(el i 4),(el i 5),(el i 6)])::cap) (bP (p i)))(hl:n<=1000000):gV 17 [.sl nl n 7 el,.fn g cap] (bP ((List.range n).any p)):=by
 by_cases h:∃ i,i<n/\p i=true
 .obtain ⟨N,h1,h2,h3⟩:∃ N,N<n/\p N=true/\∀ i,i<N->p i=false:=qB h
  refine(afN nl n el g cap p hp N hl h1 h3 h2).jW (.iS ?_);rw[di.2 ⟨N,bI.2 h1,h2⟩]
 .refine (Af nl n el g cap p hp hl fun i hi=>by simpa using fun q=>h ⟨i,hi,q⟩).jW (.iS ?_)
  rw[dW.2 fun i hi q=>h ⟨i,bI.1 hi,q⟩]
theorem ajP(nl:Bool)(n:Nat)(el:Nat->Nat->E)(g:FuncId)(cap:List E)(p:Nat->Bool)(hp:∀ i,i<n->gV g ((el i 0)::cap) (bP (p i)))(hl:n<=1000000)(iH:∀ i,i<n->p i=false):gV 176 [.sl nl n 1 el,.fn g cap] (iP (-1)):=by
 exact tr false Tryz.call176 Tryz.func176 (chain [.s (Sp.jv (WO nl n el g cap) 0 n ae (fun i hi pG=>by
    exact iB (chain [tT 9 ((i:Int)<(n:Int)) ae,iX ((i:Int)) (n) ae,.c (hp i ae:gV g ((el i 0)::cap) _),tB 16 (iH i ae:(p i)=false),iq ((i:Int)+1) ae]<|.nil) ah)
  (fun hi=>by
    exact iB (chain [tF 9 ((n:Int)<(n:Int)) ae]<|.nil) ah) ak:jq 2 Tryz.f176 (WO nl n el g cap 0) (.exit 0) ⟨19,false,[],[]⟩) .nil]<|.nil) ah 
theorem ajN(nl:Bool)(n:Nat)(el:Nat->Nat->E)(g:FuncId)(cap:List E)(p:Nat->Bool)(hp:∀ i,i<n->gV g ((el i 0)::cap) (bP (p i)))(hl:n<=1000000)(iH:∀ i,i<n->p i=false):gV 143 [.sl nl n 1 el,.fn g cap] (bP false):=by
 exact tr false Tryz.call143 Tryz.func143 (chain [.c (ajP nl n el g cap p hp hl iH:gV 176 [(.sl nl n 1 el),(.fn g cap)] _),tB 8 (ag:(decide ((0:Int)<=(-1)))=false)]<|.nil) ah 
end Go.Proofs.YtdgnpeddgdclhaaGreatDoor
