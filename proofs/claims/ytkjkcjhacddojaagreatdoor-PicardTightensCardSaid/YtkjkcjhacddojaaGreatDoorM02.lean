/- Lemmas that the last file uses. -/
import Derived.Test.YtkjkcjhacddojaaGreatDoorM01
import Derived.Deep.DeepCutAuto
import Derived.Deep.Slices
import Derived.Carry
import Derived.Scope
set_option linter.unusedSimpArgs false
set_option linter.unusedVariables false
set_option linter.defProp false
set_option maxHeartbeats 4000000
open Go.Proofs.Tryz
namespace Go.Proofs.YtkjkcjhacddojaaGreatDoor
open Go.RowKit Fp
theorem Nw(n c:Nat)(hc:n<=c)(hn:c<=10000000000)(w:World):
 (Instr.makeSlice 37 (.int .i64 (n:Int)) (.int .i64 (c:Int))).run prog w = .ok (.slice (some ⟨w.heap.size,0,none⟩) n c) (w.alloc (.cells (oj (List.replicate c 0)).toArray 150)):=by
 obtain⟨i,hi,hz,h1,h2⟩:=info_parts M5;have hr:=run_make (P:=prog) w 37 150 i _ underlying37 hi hz .i64 .i64 n c ae ae (by rw[h2];omega) ae;rw[hr,fC,fC,h1,bQ];refine congrArg (λcs=>Result.ok (Value.slice (some ⟨w.heap.size,0,none⟩) n c) (w.alloc (.cells cs 150))) ?_;apply Array.ext
 .simp [madeCells,oj]
 .intro i h1 h2
  simp[madeCells,oj,Value.cells,cI]
theorem Ow.xS(w:World)(base n c:Nat)(hb:base<=w.heap.size)(hc:n<=c)(hn:c<=10000000000):
 Ow (w.alloc (.cells (oj (List.replicate c 0)).toArray 150)) base (.slice (some ⟨w.heap.size,0,none⟩) n c) (List.replicate n 0):=
 ⟨⟨by simp[oj],.inr ⟨w.heap.size,c,_,aj,hb,heap_alloc_new w _,by simpa using hc,by simp only[maxLen];omega,by simp[oj],by
  simp[oj,List.take_replicate,cT hc]⟩⟩,iD.Cd n⟩
theorem iz.own{w w1 w2:World}(h:iz w w1)(v:Value)(L:List Nat)(ho:Ow w1 w.heap.size v L)(hg:w1.grownBy w2 v.ownBlock):iz w w2:=
 h.grown hg h.size (λk hk=>(ho.row.lt k hk).1)
theorem OV(x q s:Nat)(hx:x<4294967296)(hs:s<32)(hq:q<2^s):
 bits BinOp.or IntKind.u64 (IntKind.u64.wrap ((x:Int)*2^s)) (q:Int)=((x*2^s+q:Nat):Int)/\x*2^s+q<18446744073709551616/\(x*2^s+q)/4294967296<2^s:=by
 have hp:2^s<=2^31:=bj ag ae;have e31:(2:Nat)^31=2147483648:= ag ;have h1:(x+1)*2^s<=4294967296*2^s:=bE _ hx;rw[bL,bK]at h1;have h2:x*2^s<4294967296*2^s:=cD hx (aZ ag);refine⟨?_,ae,ae⟩;have e:((x:Int)*2^s)=((x*2^s:Nat):Int):= aj ;rw[e,IntKind.wrap_u64,show((x*2^s:Nat):Int)%18446744073709551616=((x*2^s:Nat):Int)by omega,Ki _ _ ae ae,fI,AR q x s hq,dZ]
theorem VQ(A:Option Addr)(c:Nat)(L:List Nat)(n:Nat)(w:World)(hs:Sl w A c L)(hlen:L.length<=100000000)(hn:n<=65536):
 Calls prog 275 #[.slice A L.length c,.int .i64 n] w (λe w'=>∃ T,val T=val L*2^n/\iD T/\T.length=n/32+(il L).length+1/\tg w T e w'):=by
 have hT:=aol (uH A c L w hs);have kB:=hs.tW;have nD:=oO L;have hC:=kB.cap;have hL:=hs.qf;unfold lZ at nD;have hv:=aol (oG L);generalize il L=M at *
 obtain⟨m,hm⟩:∃ m,m=M.length:=⟨_,rfl⟩
 rw[<-hm]at hT nD hC;have HM:=aol hm;clear hm;have pf:=Nw (n/32) (n/32+m+1) ae ae;rw[show((n/32:Nat):Int)=n/32 by omega,show((n/32+m+1:Nat):Int)=n/32+m+1 by omega]at pf;have EP:=aol (Ow.xS w w.heap.size (n/32) (n/32+m+1) (aV _) ae ae);go_enter func275,ntmps275;go_wp2_with fail;refine hT.out.mono ?_;rintro e w' ⟨rfl,rfl⟩;go_wp2;go_loopw [5,6,23] (λv cy i wr=>∃ (k q:Nat) (O:List Nat),k<=m/\i = .int .i64 k/\cy = .int .u64 q/\q<2^(n%32)/\O.length=n/32+k/\val O+4294967296^(n/32+k)*q=val (M.take k)*2^(n%32)*4294967296^(n/32)/\Ow wr w.heap.size v O/\iz w wr) (λ_ _ i _=>m-(intOf i).toNat)
 case atStart=>
  exact⟨0,0,List.replicate (n/32) 0,bN _,rfl,rfl,aZ ag,aj,by simp[zU],EP.out,iz.alloc _ _⟩
 case round=>
  obtain⟨k,q,O,hk,rfl,rfl,hq,hO,kW,lk,hb⟩:=hrel;have HV:=aol kW;have HO:=aol hO;have EO:O.length<=200000000:= ae ;have ux:=aol hq;clear kW hO hq;obtain⟨OA,Oc,rfl,yY⟩:=lk.sl;by_cases iE:k<m
  .have pe:k<M.length:=by have:=HM.out;omega
   obtain⟨ab,ao,rfl,_,c1⟩:=(kB.below hb).lp pe;have mG:M[k]<4294967296:=kB.ok.get pe;have HX:=aol (OU (c:=q) (s:=n%32) (n0:=n/32) pe HO.out HV.out);generalize M[k]=x at *
   obtain⟨hw,y7,tK⟩:=OV x q (n%32) mG (bh _ ag) ux.out;generalize x*2^(n%32)+q=z at *
   have Fl:=aol tK;clear tK;have lO:O.length+[z%4294967296].length<=10000000000:= av ;go_wp2_with (at_builtin;go_must (refine q7 ai _ _ ai w.heap.size _ O ai (lk.alloc _) _ _ _ [z%4294967296] ai ai (Sl.s6 _ _ (z%4294967296) ae ae) lO (qe hb.size _) ?_);intro v' w1 oI hg o9)
   go_roundw
   case rel=>
    exact⟨k+1,z/4294967296,O++[z%4294967296],ae,by go_num,by go_num,Fl.out,by rw[ch,HO.out];rfl,HX.out,oI,(hb.trans (iz.alloc _ _)).own _ _ (lk.alloc _) hg⟩
   case measure=>simp[intOf];omega
  .obtain rfl:k=m:= ae 
   have lO:O.length+[q].length<=10000000000:= av ;have IX:q<4294967296:=by
    have:=ux.out;have hp:2^(n%32)<=2^31:=bj ag ae;have e31:(2:Nat)^31=2147483648:= ag ;omega
   have TX:(q:Int)%4294967296=q:= ae ;go_wp2_with (at_builtin;go_must (refine q7 ai _ _ ai w.heap.size _ O ai (lk.alloc _) _ _ _ [q] ai ai (Sl.s6 _ _ q ae ae) lO (qe hb.size _) ?_);intro v' w1 oI hg o9)
   obtain⟨A',c',rfl,mR⟩:=oI.sl;go_ret;refine⟨O++[q],?_,mR.ok,by rw[ch,HO.out,<-HM.out];rfl,A',c',rfl,mR,(hb.trans (iz.alloc _ _)).own _ _ (lk.alloc _) hg⟩;have h:=HV.out;rw[ct (by rw[HM.out];exact aV _)]at h;rw[uU,HO.out,qF,zS,cv,bB,h,<-hv.out,nP,bd,<-aX];congr 2;omega
theorem VJ(A:Option Addr)(c:Nat)(L:List Nat)(n:Nat)(w:World)(hs:Sl w A c L)(hlen:L.length<=256)(hn:n<=65536)(ot:(gV (val L*2^n)).length<=256):
 Calls prog 219 #[.slice A L.length c,.int .i64 n] w (Cv w (gV (val L*2^n)) 0):=by
 have H1:=aol (λw (h:Sl w A c L)=>VQ A c L n w h ae hn);obtain⟨R,hR⟩:∃ R,R=gV (val L*2^n):=⟨_,rfl⟩
 rw[<-hR]at ot ⊢;have HR:=aol hR;clear hR;go_enter func219,ntmps219;go_wp2_with fail;refine(Nt _ A _ c _ false (PD _ _ _ _) av).mono ?_;rintro e w' ⟨rfl,rfl⟩;go_wp2_with fail;refine(H1.out _ (hs.alloc _)).mono ?_;rintro e w' ⟨T,hT,ER,-,A',c',rfl,mR,hb⟩;have h3:=aol (show il T=R by rw[qE ER,hT,HR.out]);clear hT ER;go_wp2_with fail;refine(FO A' c' T _ mR (by rw[h3.out];exact ot)).mono ?_;rintro e w'' ⟨A'',c'',rfl,qM,mA⟩;go_wp2;go_ret2;rw[<-h3.out];exact⟨A'',c'',rfl,qM,(iz.alloc _ _).trans (hb.trans mA)⟩
theorem akZ(A:Option Addr)(c:Nat)(L:List Nat)(n:Nat)(w:World)(hs:Sl w A c L)(hlen:L.length<=256)(hn:n<=65536)(ot:(gV (val L*2^n)).length<=256):
 Calls prog 266 #[.slice A L.length c,.int .i64 n] w (tg w (gV (val L*2^n))):=by
 have H1:=aol (VJ A c L n w hs hlen hn ot);generalize gV (val L*2^n)=R at *
 go_enter func266,ntmps266;go_wp2_with fail;refine H1.out.mono ?_;rintro e w'' ⟨A'',c'',rfl,qM,mA⟩;go_wp2;go_ret;exact⟨A'',c'',rfl,qM,mA⟩
theorem Pg(a b:Nat)(ha:a<18446744073709551616)(hb:b<18446744073709551616):bits .and .u64 (a:Int) (b:Int)=((a &&& b:Nat):Int):=by
 have hx:a &&& b<2^64:=ff _ ae;have h1:(BitVec.ofInt 64 (a:Int)).toNat=a:=by
  rw[gj,gl];exact bC ae 
 have h2:(BitVec.ofInt 64 (b:Int)).toNat=b:=by
  rw[gj,gl];exact bC ae 
 show IntKind.u64.wrap ((BitVec.ofInt 64 (a:Int) &&& BitVec.ofInt 64 (b:Int)).toNat:Int)=_;rw[BitVec.toNat_and,h1,h2,IntKind.wrap_u64];omega
theorem wm(z:Nat)(hz:z<18446744073709551616):bits BinOp.and IntKind.u64 (z:Int) 4294967295=(z:Int)%4294967296:=by
 have e:(4294967295:Int)=((4294967295:Nat):Int):=rfl;rw[e,Pg z _ hz ae,show(4294967295:Nat)=2^32-1 by decide,anT];simp
theorem ajU(A:Option Addr)(c:Nat)(M:List Nat)(n:Nat)(w:World)(kB:Sl w A c M)(hlen:M.length<=1000)(hn:n<=65536):
 Calls prog 246 #[.slice A M.length c,.int .i64 n] w (tg w (gV (val M*2^n))):=by
 have hC:=kB.cap;have hL:=kB.qf;obtain⟨m,hm⟩:∃ m,m=M.length:=⟨_,rfl⟩
 rw[<-hm]at hlen hC ⊢;have HM:=aol hm;clear hm;have pf:=Nw (n/32) (n/32) ae ae;rw[show((n/32:Nat):Int)=n/32 by omega]at pf;have EP:=aol (Ow.xS w w.heap.size (n/32) (n/32) (aV _) ae ae);go_enter func246,ntmps246;go_wp2;go_loopw [5,6,7] (λv cy i wr=>∃ (k q:Nat) (O:List Nat),k<=m/\i = .int .i64 k/\cy = .int .u64 q/\q<2^(n%32)/\O.length=n/32+k/\val O+4294967296^(n/32+k)*q=val (M.take k)*2^(n%32)*4294967296^(n/32)/\Ow wr w.heap.size v O/\iz w wr) (λ_ _ i _=>m-(intOf i).toNat)
 case atStart=>
  exact⟨0,0,List.replicate (n/32) 0,bN _,rfl,rfl,aZ ag,aj,by simp[zU],EP.out,iz.alloc _ _⟩
 case round=>
  obtain⟨k,q,O,hk,rfl,rfl,hq,hO,kW,lk,hb⟩:=hrel;have HV:=aol kW;have HO:=aol hO;have EO:O.length<=3100:= ae ;have ux:=aol hq;clear kW hO hq;obtain⟨OA,Oc,rfl,yY⟩:=lk.sl;by_cases iE:k<m
  .have pe:k<M.length:=by have:=HM.out;omega
   obtain⟨ab,ao,rfl,_,c1⟩:=(kB.below hb).lp pe;have mG:M[k]<4294967296:=kB.ok.get pe;have HX:=aol (OU (c:=q) (s:=n%32) (n0:=n/32) pe HO.out HV.out);generalize M[k]=x at *
   obtain⟨hw,y7,tK⟩:=OV x q (n%32) mG (bh _ ag) ux.out;generalize x*2^(n%32)+q=z at *
   have Fl:=aol tK;clear tK;have lO:O.length+[z%4294967296].length<=10000000000:= av ;have uo:=wm z y7;go_wp2_with (at_builtin;go_must (refine q7 ai _ _ ai w.heap.size _ O ai (lk.alloc _) _ _ _ [z%4294967296] ai ai (Sl.s6 _ _ (z%4294967296) ae ae) lO (qe hb.size _) ?_);intro v' w1 oI hg o9)
   go_roundw
   case rel=>
    exact⟨k+1,z/4294967296,O++[z%4294967296],ae,by go_num,by go_num,Fl.out,by rw[ch,HO.out];rfl,HX.out,oI,(hb.trans (iz.alloc _ _)).own _ _ (lk.alloc _) hg⟩
   case measure=>simp[intOf];omega
  .obtain rfl:k=m:= ae 
   have lO:O.length+[q].length<=10000000000:= av ;have IX:q<4294967296:=by
    have:=ux.out;have hp:2^(n%32)<=2^31:=bj ag ae;have e31:(2:Nat)^31=2147483648:= ag ;omega
   have TX:(q:Int)%4294967296=q:= ae ;have wP:Hid (il (O++[q])=gV (val M*2^n)):=by
    show il (O++[q])=gV (val M*2^n);rw[qE (lk.ok.append (iD.cons IX iD.nil))];have h:=HV.out;rw[ct (by rw[HM.out];exact aV _)]at h;rw[uU,HO.out,qF,zS,cv,bB,h,nP,bd,<-aX];congr 3;omega
   go_wp2_with (at_builtin;go_must (refine q7 ai _ _ ai w.heap.size _ O ai (lk.alloc _) _ _ _ [q] ai ai (Sl.s6 _ _ q ae ae) lO (qe hb.size _) ?_);intro v' w1 oI hg o9;obtain⟨P,hP⟩:∃ P,P=O++[q]:=⟨_,rfl⟩;rw[<-hP]at oI wP;have Iu:P.length<=3101:=(by rw[hP];simp;omega);clear hP;obtain⟨A',c',rfl,mR⟩:=oI.sl)
   refine(Cc A' c' P _ mR ae).mono ?_;rintro e w' ⟨A'',c'',rfl,qM,mA⟩;go_wp2;go_ret;rw[<-wP.out];exact⟨A'',c'',rfl,qM,((hb.trans (iz.alloc _ _)).own _ _ (lk.alloc _) hg).trans mA⟩
theorem ak9(x y s:Nat)(hx:x<4294967296)(hy:y<4294967296):
 bits BinOp.and IntKind.u64 (bits BinOp.or IntKind.u64 (x:Int) ((y:Int)*4294967296)/2^s) 4294967295=(((x+4294967296*y)/2^s%4294967296:Nat):Int):=by
 have e:((y:Int)*4294967296)=((y*2^32:Nat):Int):= aj ;rw[e,Ki x (y*2^32) ae ae,AR x y 32 ae];have h:(x+y*2^32)/2^s<18446744073709551616:=bR (bD _ _) ae;have h2:=wm _ h;rw[show(((x+y*2^32:Nat):Int)/2^s)=(((x+y*2^32)/2^s:Nat):Int)by simp,h2];simp[bc]
theorem ak8(x s:Nat)(hx:x<4294967296):bits BinOp.and IntKind.u64 ((x:Int)/2^s) 4294967295=(((x+4294967296*0)/2^s%4294967296:Nat):Int):=by
 have h:x/2^s<18446744073709551616:=bR (bD _ _) ae;rw[show((x:Int)/2^s)=((x/2^s:Nat):Int)by simp,wm _ h];simp
theorem aj1(A:Option Addr)(c:Nat)(M:List Nat)(n:Nat)(w:World)(kB:Sl w A c M)(hlen:M.length<=3000)(hn:n<=100000):
 Calls prog 263 #[.slice A M.length c,.int .i64 n] w (tg w (gV (val M/2^n))):=by
 have hC:=kB.cap;have hL:=kB.qf;have wP:Hid (il (qD (n%32) (M.drop (n/32)))=gV (val M/2^n)):=by
  show _=_;rw[qE (AO _ _),Ko kB.ok]
 obtain⟨R,hR⟩:∃ R,R=gV (val M/2^n):=⟨_,rfl⟩
 rw[<-hR]at wP ⊢;clear hR;obtain⟨m,hm⟩:∃ m,m=M.length:=⟨_,rfl⟩
 rw[<-hm]at hlen hC ⊢;have HM:=aol hm;clear hm;by_cases h0:m<=n/32
 .go_enter func263,ntmps263
  go_wp2;go_ret;have:M.drop (n/32)=[]:=dW (by rw[<-HM.out];exact h0);have h:=wP.out;rw[this]at h;rw[<-h];exact⟨none,0,rfl,Sl.nil _,iz.refl _⟩
 .obtain ⟨ab,ao,rfl,_,_⟩:=kB.lp (i:=0) (by have:=HM.out;omega)
  have hK:=kB.drop (n/32);have uf:=aol (show m-n/32=(M.drop (n/32)).length by rw[eu,HM.out]);have rP:n/32<c:= ae ;have mz:0<m-n/32:= ae ;have tA:m-n/32<=3000:= ae ;generalize M.drop (n/32)=K at *
  simp only[cK,Bf]at hK;have wI:=aol (J2 (n%32) K);have L8:=aol (X4 (n%32) K);have ER:=aol (AO (n%32) K);generalize qD (n%32) K=T at *
  go_enter func263,ntmps263;go_wp2;go_loopw [5,6] (λv i wr=>∃ (k:Nat) (O:List Nat),k<=m-n/32/\i = .int .i64 k/\O=T.take k/\Ow wr w.heap.size v O/\iz w wr) (λ_ i _=>m-n/32-(intOf i).toNat)
  case atStart=>
   exact⟨0,[],bN _,rfl,aj,Ow.nil _ _,iz.refl _⟩
  case round=>
   obtain⟨k,O,hk,rfl,hO,lk,hb⟩:=hrel;have EO:O.length<=3000:=by rw[hO,b8];omega
   have HO:=aol hO;clear hO;obtain⟨OA,Oc,rfl,yY⟩:=lk.sl;by_cases iE:k<m-n/32
   .have uj:k<K.length:=by have:=uf.out;omega
    obtain⟨ab',ao',e',_,c1⟩:=(hK.below hb).lp uj;cases e';have hg:=L8.out k uj;have mG:K[k]<4294967296:=hK.ok.get uj;have HK:=aol (bg uj);by_cases Aw:k+1<m-n/32
    .have yU:k+1<K.length:=by have:=uf.out;omega
     obtain⟨ab',ao',e',_,c2⟩:=(hK.below hb).lp yU;cases e';have hy:K.getD (k+1) 0=K[k+1]:=by rw[aW,bg yU];rfl
     rw[hy]at hg;have pC:K[k+1]<4294967296:=hK.ok.get yU;have HG:=aol hg;clear hg hy;generalize K[k]=x at *
     generalize K[k+1]=y at *
     clear uj yU;have hw:=ak9 x y (n%32) mG pC;have hz:(x+4294967296*y)/2^(n%32)%4294967296<4294967296:=bh _ ag;generalize (x+4294967296*y)/2^(n%32)%4294967296=z at *
     have lO:O.length+[z].length<=10000000000:= av ;go_wp2_with (at_builtin;go_must (refine q7 ai _ _ ai w.heap.size _ O ai (lk.alloc _) _ _ _ [z] ai ai (Sl.s6 _ _ z ae ae) lO (qe hb.size _) ?_);intro v' w1 oI hg o9)
     go_roundw
     case rel=>
      exact⟨k+1,O++[z],ae,by go_num,by rw[HO.out,anU,HG.out];rfl,oI,(hb.trans (iz.alloc _ _)).own _ _ (lk.alloc _) hg⟩
     case measure=>simp[intOf];omega
    .have hy:K.getD (k+1) 0=0:=by rw[aW,bT (by have:=uf.out;omega)];rfl
     rw[hy]at hg;have HG:=aol hg;clear hg hy;generalize K[k]=x at *
     clear uj;have hw:=ak8 x (n%32) mG;have hz:(x+4294967296*0)/2^(n%32)%4294967296<4294967296:=bh _ ag;generalize (x+4294967296*0)/2^(n%32)%4294967296=z at *
     have lO:O.length+[z].length<=10000000000:= av ;go_wp2_with (at_builtin;go_must (refine q7 ai _ _ ai w.heap.size _ O ai (lk.alloc _) _ _ _ [z] ai ai (Sl.s6 _ _ z ae ae) lO (qe hb.size _) ?_);intro v' w1 oI hg o9)
     go_roundw
     case rel=>
      exact⟨k+1,O++[z],ae,by go_num,by rw[HO.out,anU,HG.out];rfl,oI,(hb.trans (iz.alloc _ _)).own _ _ (lk.alloc _) hg⟩
     case measure=>simp[intOf];omega
   .have hOT:Hid (il O=R):=by
     show il O=R;rw[HO.out,ct (by rw[wI.out,<-uf.out];omega)];exact wP.out
    go_wp2_with fail;refine(Cc OA Oc O _ yY ae).mono ?_;rintro e w' ⟨A'',c'',rfl,qM,mA⟩;go_wp2;go_ret;rw[<-hOT.out];exact⟨A'',c'',rfl,qM,hb.trans mA⟩
theorem An{L:List Nat}{k:Nat}(h:k<L.length):L.getD k 0=L[k]:=by
 rw[aW,bg h];rfl
theorem C0{L:List Nat}{k:Nat}(h:¬k<L.length):L.getD k 0=0:=by
 rw[aW,bT ae];rfl
theorem ajX(A B:Option Addr)(c d:Nat)(L M:List Nat)(w:World)(hs:Sl w A c L)(hr:Sl w B d M)(h1:L.length<=3000)(h2:M.length<=3000):
 Calls prog 247 #[.slice A L.length c,.slice B M.length d] w (tg w (gV (val L+val M))):=by
 have HLl:=aol (rfl:L.length=L.length);obtain⟨l,hl⟩:∃ l,l=L.length:=⟨_,rfl⟩
 obtain⟨m,hm⟩:∃ m,m=M.length:=⟨_,rfl⟩
 rw[<-hl]at h1 ⊢;rw[<-hm]at h2 ⊢;have HL:=aol hl;have HM:=aol hm;clear hl hm HLl;go_enter func247,ntmps247;go_wp2;go_loopw [5,6,7] (λv cy i wr=>∃ (k q:Nat) (O:List Nat),(k<=l\/k<=m)/\i = .int .i64 k/\cy = .int .u64 q/\q<=1/\O.length=k/\val O+4294967296^k*q=val (L.take k)+val (M.take k)/\Ow wr w.heap.size v O/\iz w wr) (λ_ _ i _=>3000-(intOf i).toNat)
 case atStart=>exact⟨0,0,[],.inl (bN _),rfl,rfl,ag,rfl,aj,Ow.nil _ _,iz.refl _⟩
 case round=>
  obtain⟨k,q,O,hk,rfl,rfl,hq,hO,kW,lk,hb⟩:=hrel;have HS:=aol (ZK (x:=L.getD k 0) (y:=M.getD k 0) hO kW (uW L k) (uW M k));have HV:=aol kW;have HO:=aol hO;have EO:O.length<=3000:= ae ;have Mz:k<=3000:= ae ;clear kW hO hk;obtain⟨OA,Oc,rfl,yY⟩:=lk.sl;have uo:=λz:Nat=>λh:z<8589934593=>wm z ae 
  by_cases hl:k<l
  .have TJ:(k:Int)<l:= ae 
   have uk:k<L.length:=by have:=HL.out;omega
   obtain⟨ab,ao,rfl,_,c1⟩:=(hs.below hb).lp uk;have mG:L[k]<4294967296:=hs.ok.get uk;rw[An uk]at HS;generalize L[k]=x at *
   clear uk;by_cases hm:k<m
   .have IP:(k:Int)<m:= ae 
    have pe:k<M.length:=by have:=HM.out;omega
    obtain⟨bb,bo,rfl,_,c2⟩:=(hr.below hb).lp pe;have pC:M[k]<4294967296:=hr.ok.get pe;rw[An pe]at HS;generalize M[k]=y at *
    clear pe;have pf:=uo (q+x+y) ae;simp only[ey]at pf;clear uo;have lO:O.length+[(q+x+y)%4294967296].length<=10000000000:= av ;go_wp2_with (at_builtin;go_must (refine q7 ai _ _ ai w.heap.size _ O ai (lk.alloc _) _ _ _ [(q+x+y)%4294967296] ai ai (Sl.s6 _ _ ((q+x+y)%4294967296) ae ae) lO (qe hb.size _) ?_);intro v' w1 oI hg o9)
    go_roundw
    case rel=>
     exact⟨k+1,(q+x+y)/4294967296,O++[(q+x+y)%4294967296],ae,by go_num,by go_num,ae,by rw[ch,HO.out];rfl,HS.out,oI,(hb.trans (iz.alloc _ _)).own _ _ (lk.alloc _) hg⟩
    case measure=>simp[intOf];omega
   .have IP:¬(k:Int)<m:= ae 
    rw[C0 (by have:=HM.out;omega)]at HS;have pf:=uo (q+x+0) ae;simp only[ey,bB]at pf;clear uo;have lO:O.length+[(q+x+0)%4294967296].length<=10000000000:= av ;go_wp2_with (at_builtin;go_must (refine q7 ai _ _ ai w.heap.size _ O ai (lk.alloc _) _ _ _ [(q+x+0)%4294967296] ai ai (Sl.s6 _ _ ((q+x+0)%4294967296) ae ae) lO (qe hb.size _) ?_);intro v' w1 oI hg o9)
    go_roundw
    case rel=>
     exact⟨k+1,(q+x+0)/4294967296,O++[(q+x+0)%4294967296],ae,by go_num,by go_num,ae,by rw[ch,HO.out];rfl,HS.out,oI,(hb.trans (iz.alloc _ _)).own _ _ (lk.alloc _) hg⟩
    case measure=>simp[intOf];omega
  .have TJ:¬(k:Int)<l:= ae 
   have hlF:decide ((k:Int)<l)=false:=by simpa using TJ
   rw[C0 (L:=L) (by have:=HL.out;omega)]at HS;by_cases hm:k<m
   .have IP:(k:Int)<m:= ae 
    have pe:k<M.length:=by have:=HM.out;omega
    obtain⟨bb,bo,rfl,_,c2⟩:=(hr.below hb).lp pe;have pC:M[k]<4294967296:=hr.ok.get pe;rw[An pe]at HS;generalize M[k]=y at *
    clear pe;have pf:=uo (q+0+y) ae;simp only[ey,bB]at pf;clear uo;have lO:O.length+[(q+0+y)%4294967296].length<=10000000000:= av ;go_wp2_with (at_builtin;go_must (refine q7 ai _ _ ai w.heap.size _ O ai (lk.alloc _) _ _ _ [(q+0+y)%4294967296] ai ai (Sl.s6 _ _ ((q+0+y)%4294967296) ae ae) lO (qe hb.size _) ?_);intro v' w1 oI hg o9)
    go_roundw
    case rel=>
     exact⟨k+1,(q+0+y)/4294967296,O++[(q+0+y)%4294967296],ae,by go_num,by go_num,ae,by rw[ch,HO.out];rfl,HS.out,oI,(hb.trans (iz.alloc _ _)).own _ _ (lk.alloc _) hg⟩
    case measure=>simp[intOf];omega
   .have IP:¬(k:Int)<m:= ae 
    clear uo;have IX:(q:Int)%4294967296=q:= ae ;have wP:Hid (il (O++[q])=gV (val L+val M)):=by
     show il (O++[q])=_;rw[qE (lk.ok.append (iD.cons ae iD.nil)),uU,HO.out];have h:=HV.out;rw[ct (by have:=HL.out;omega),ct (by have:=HM.out;omega)]at h;simp only[qF,zS,cv,bB];rw[h]
    have lO:O.length+[q].length<=10000000000:= av ;go_wp2_with (at_builtin;go_must (refine q7 ai _ _ ai w.heap.size _ O ai (lk.alloc _) _ _ _ [q] ai ai (Sl.s6 _ _ q ae ae) lO (qe hb.size _) ?_);intro v' w1 oI hg o9;obtain⟨P,hP⟩:∃ P,P=O++[q]:=⟨_,rfl⟩;rw[<-hP]at oI wP;have Iu:P.length<=3001:=(by rw[hP];simp;omega);clear hP;obtain⟨A',c',rfl,mR⟩:=oI.sl)
    refine(Cc A' c' P _ mR ae).mono ?_;rintro e w' ⟨A'',c'',rfl,qM,mA⟩;go_wp2;go_ret;rw[<-wP.out];exact⟨A'',c'',rfl,qM,((hb.trans (iz.alloc _ _)).own _ _ (lk.alloc _) hg).trans mA⟩
theorem amB(x s:Nat)(hx:x<4294967296):bits BinOp.and IntKind.u32 ((x:Int)/2^s) 1=((x/2^s%2:Nat):Int):=by
 have h:x/2^s<4294967296:=bR (bD _ _) ae;rw[show((x:Int)/2^s)=((x/2^s:Nat):Int)by simp,show(1:Int)=((1:Nat):Int)from rfl,bits_and_u32_nat _ _ h ag,gn]
theorem aka(A:Option Addr)(c:Nat)(L:List Nat)(w:World)(hs:Sl w A c L)(h1:L.length<=3000)(h0:val L≠0):
 Calls prog 262 #[.slice A L.length c] w λe w'=>e = .returned (.int .i64 (jQ (val L)))/\w=w':=by
 have hz:=Ep hs.ok h0;have HB:=aol (λk (hk:k<jQ (val L))=>Qy h0 hk);have HE:=aol (Qx h0);have HV:=aol (λk=>KP hs.ok k);generalize jQ (val L)=t at *
 go_enter func262,ntmps262;go_wp2;go_loop [3] (λi=>∃ k:Nat,k<=t/\i = .int .i64 k) (λi=>t-(intOf i).toNat)
 case atStart=>exact⟨0,bN _,rfl⟩
 case round=>
  obtain⟨k,hk,rfl⟩:=hrel;have uk:k/32<L.length:= ae ;obtain⟨ab,ao,rfl,_,c1⟩:=hs.lp uk;have hv:=HV.out k uk;have mG:L[k/32]<4294967296:=hs.ok.get uk;generalize L[k/32]=x at *
  clear HV;have tC:=amB x (k%32) mG;rw[<-hv]at tC;clear hv;by_cases hkt:k<t
  .rw [HB.out k hkt]at tC
   have hb:(bits BinOp.and IntKind.u32 ((x:Int)/2^(k%32)) 1==0)=true:=by rw[tC];rfl
   clear tC;go_wp2;go_round
   case rel=>exact⟨k+1,ae,by go_num⟩
   case measure=>simp[intOf];omega
  .obtain rfl:k=t:= ae 
   rw[HE.out]at tC;have hb:(bits BinOp.and IntKind.u32 ((x:Int)/2^(k%32)) 1==0)=false:=by rw[tC];rfl
   clear tC;go_wp2;go_ret;exact⟨rfl,rfl⟩
theorem ajV(A B:Option Addr)(c d:Nat)(L M:List Nat)(w:World)(hs:Sl w A c L)(hr:Sl w B d M)(h1:L.length<=3000)(h2:M.length<=L.length)(hle:val M<=val L):
 Calls prog 248 #[.slice A L.length c,.slice B M.length d] w (tg w (gV (val L-val M))):=by
 obtain⟨l,hl⟩:∃ l,l=L.length:=⟨_,rfl⟩
 obtain⟨m,hm⟩:∃ m,m=M.length:=⟨_,rfl⟩
 rw[<-hl]at h1 h2 ⊢;rw[<-hm]at h2 ⊢;have HL:=aol hl;have HM:=aol hm;clear hl hm;have HLE:=aol hle;clear hle;go_enter func248,ntmps248;go_wp2;go_loopw [5,6,7] (λv cy i wr=>∃ (k q:Nat) (O:List Nat),k<=l/\i = .int .i64 k/\cy = .int .u64 q/\q<=1/\O.length=k/\val O+val (M.take k)=val (L.take k)+4294967296^k*q/\Ow wr w.heap.size v O/\iz w wr) (λ_ _ i _=>l-(intOf i).toNat)
 case atStart=>exact⟨0,0,[],bN _,rfl,rfl,ag,rfl,aj,Ow.nil _ _,iz.refl _⟩
 case round=>
  obtain⟨k,q,O,hk,rfl,rfl,hq,hO,kW,lk,hb⟩:=hrel;have HS:=aol (λ(x y:Nat) (e1:L.getD k 0=x) (e2:M.getD k 0=y) (dd c':Nat)=>alA (x:=x) (y:=y) (d:=dd) (c':=c') hO kW ((uW L k).trans (by rw[e1])) ((uW M k).trans (by rw[e2])));have HV:=aol kW;have HO:=aol hO;have EO:O.length<=3000:= ae ;clear kW hO;obtain⟨OA,Oc,rfl,yY⟩:=lk.sl;by_cases hl:k<l
  .have uk:k<L.length:=by have:=HL.out;omega
   obtain⟨ab,ao,rfl,_,c1⟩:=(hs.below hb).lp uk;have mG:L[k]<4294967296:=hs.ok.get uk;have HX:=aol (An uk);generalize L[k]=x at *
   clear uk;by_cases hm:k<m
   .have pe:k<M.length:=by have:=HM.out;omega
    obtain⟨bb,bo,rfl,_,c2⟩:=(hr.below hb).lp pe;have pC:M[k]<4294967296:=hr.ok.get pe;have HY:=aol (An pe);generalize M[k]=y at *
    clear pe;have pf:=wm (x+4294967296-(q+y)) ae;rw[show((x+4294967296-(q+y):Nat):Int)=x+4294967296-(q+y)by omega]at pf;have lO:O.length+[(x+4294967296-(q+y))%4294967296].length<=10000000000:= av ;go_wp2_with (at_builtin;go_must (refine q7 ai _ _ ai w.heap.size _ O ai (lk.alloc _) _ _ _ [(x+4294967296-(q+y))%4294967296] ai ai (Sl.s6 _ _ ((x+4294967296-(q+y))%4294967296) ae ae) lO (qe hb.size _) ?_);intro v' w1 oI hg o9)
    go_roundw
    case rel=>
     exact⟨k+1,1-(x+4294967296-(q+y))/4294967296,O++[(x+4294967296-(q+y))%4294967296],ae,by go_num,by rw[show(1-((x:Int)+4294967296-(q+y))/4294967296)=((1-(x+4294967296-(q+y))/4294967296:Nat):Int)by omega],ae,by rw[ch,HO.out];rfl,HS.out x y HX.out HY.out _ _ ae,oI,(hb.trans (iz.alloc _ _)).own _ _ (lk.alloc _) hg⟩
    case measure=>simp[intOf];omega
   .have IP:¬(k:Int)<m:= ae 
    have HY:=aol (C0 (L:=M) (k:=k) (by have:=HM.out;omega));have pf:=wm (x+4294967296-q) ae;rw[show((x+4294967296-q:Nat):Int)=x+4294967296-q by omega]at pf;have lO:O.length+[(x+4294967296-q)%4294967296].length<=10000000000:= av ;go_wp2_with (at_builtin;go_must (refine q7 ai _ _ ai w.heap.size _ O ai (lk.alloc _) _ _ _ [(x+4294967296-q)%4294967296] ai ai (Sl.s6 _ _ ((x+4294967296-q)%4294967296) ae ae) lO (qe hb.size _) ?_);intro v' w1 oI hg o9)
    go_roundw
    case rel=>
     exact⟨k+1,1-(x+4294967296-q)/4294967296,O++[(x+4294967296-q)%4294967296],ae,by go_num,by rw[show(1-((x:Int)+4294967296-q)/4294967296)=((1-(x+4294967296-q)/4294967296:Nat):Int)by omega],ae,by rw[ch,HO.out];rfl,HS.out x 0 HX.out HY.out _ _ ae,oI,(hb.trans (iz.alloc _ _)).own _ _ (lk.alloc _) hg⟩
    case measure=>simp[intOf];omega
  .obtain rfl:k=l:= ae 
   have wP:Hid (il O=gV (val L-val M)):=by
    show il O=_;have h:=HV.out;rw[ct (l:=L) (by have:=HL.out;omega),ct (l:=M) (by have:=HM.out;omega)]at h;rw[qE lk.ok,(Yn lk.ok HO.out h HLE.out).2]
   go_wp2_with fail;refine(Cc OA Oc O _ yY ae).mono ?_;rintro e w' ⟨A'',c'',rfl,qM,mA⟩;go_wp2;go_ret;rw[<-wP.out];exact⟨A'',c'',rfl,qM,hb.trans mA⟩
theorem Nz{O:List Nat}{p a b c o:Nat}(ho:O[p]? = some o):
 val (O.set p ((a*b+o+c)%4294967296))+4294967296^(p+1)*((a*b+o+c)/4294967296)=val O+4294967296^p*c+4294967296^p*(a*b):=by
 obtain⟨hp,rfl⟩:=bZ.1 ho;have h:=Pj (x:=(a*b+O[p]+c)%4294967296) hp;have e:=congrArg (4294967296^p * ·) (dt (a*b+O[p]+c) 4294967296);simp only[bt]at e;rw[a6,bd];omega
theorem K3{O:List Nat}{p c o:Nat}(ho:O[p]? = some o):
 val (O.set p ((o+c)%4294967296))+4294967296^(p+1)*((o+c)/4294967296)=val O+4294967296^p*c:=by
 have h:=Nz (a:=0) (b:=0) (c:=c) ho;simpa using h
theorem abQ{i n k N c:Nat}{O a b:List Nat}(hk:val O+4294967296^k*c=val (a.take (i+1))*val b)(ha:iD a)(hb:iD b)(hi:i<a.length)(hn:b.length=n)(hc:0<c)(hN:a.length+n<N):k<N:=by
 have h1:=mh (ha.take (i+1));rw[b8,cT ae]at h1;have h2:=mh hb;rw[hn]at h2;have h3:val (a.take (i+1))*val b<4294967296^(i+1+n):=by
  rw[aX];exact gp h1 h2
 have h4:4294967296^k*1<=4294967296^k*c:=cg _ hc;have h5:4294967296^k<4294967296^(i+1+n):= ae ;have:=(gQ (ag:1<4294967296)).1 h5;omega
theorem amG(x y:Nat)(hx:x<4294967296)(hy:y<4294967296):IntKind.u64.wrap ((x:Int)*(y:Int))=((x*y:Nat):Int)/\x*y<=18446744065119617025:=by
 have h:x*y<=4294967295*4294967295:=cL ae ae;refine⟨?_,ae⟩;rw[IntKind.wrap_u64,<-dN];omega
theorem pE(x:Nat)(h:x<18446744073709551616):IntKind.u64.wrap (x:Int)=x:=by rw[IntKind.wrap_u64];omega
theorem Fp.iD.JY{L:List Nat}(h:iD L)(k:Nat)(x:Nat):iD (L.set k (x%4294967296)):=h.set k (bh _ ag)
theorem aj6(A B:Option Addr)(c d:Nat)(L M:List Nat)(w:World)(hs:Sl w A c L)(hr:Sl w B d M)(h1:L.length<=3000)(h2:M.length<=3000):
 Calls prog 305 #[.slice A L.length c,.slice B M.length d] w (tg w (gV (val L*val M))):=by
 obtain⟨l,hl⟩:∃ l,l=L.length:=⟨_,rfl⟩
 obtain⟨m,hm⟩:∃ m,m=M.length:=⟨_,rfl⟩
 rw[<-hl]at h1 ⊢;rw[<-hm]at h2 ⊢;have HL:=aol hl;have HM:=aol hm;clear hl hm;have pf:=DB (l+m+1) ae;rw[show((l+m+1:Nat):Int)=l+m+1 by omega]at pf;have vu:=aol (Rw.xS w (l+m+1));go_enter func305,ntmps305;go_wp2;go_loopw [6] (λi wr=>∃ (k:Nat) (O:List Nat),k<=l/\i = .int .i64 k/\O.length=l+m+1/\iD O/\val O=val (L.take k)*val M/\Rw wr w.heap.size O/\iz w wr) (λi _=>l-(intOf i).toNat)
 case atStart=>
  exact⟨0,List.replicate (l+m+1) 0,bN _,rfl,aj,iD.Cd _,by simp[zU],vu.out,iz.alloc _ _⟩
 case round=>
  obtain⟨i,O,hi,rfl,hO,k0,kW,hR,hb⟩:=hrel;have HV:=aol kW;have HO:=aol hO;clear kW hO;by_cases iE:i<l
  .have IG:i<L.length:=by have:=HL.out;omega
   obtain⟨x,hx⟩:∃ x,x=L[i]:=⟨_,rfl⟩
   have HX:=aol hx;have mG:x<4294967296:=by rw[hx];exact hs.ok.get IG
   have HXc:=aol (λw (h:Sl w A c L)=>hx▸h.lp IG);clear hx;have HST:=aol (show val (L.take (i+1))=val (L.take i)+4294967296^i*x by rw[HX.out];exact yj L i IG);clear HX IG;go_wp2;obtain⟨wo,rfl⟩:∃ wo:World,wo=wr:=⟨_,rfl⟩
   go_loopw [7,8] (λcy k wr=>∃ (j q:Nat) (O:List Nat),j<=m/\k = .int .i64 j/\cy = .int .u64 q/\q<4294967296/\O.length=l+m+1/\iD O/\val O+4294967296^(i+j)*q=val (L.take i)*val M+4294967296^i*(x*val (M.take j))/\Rw wr w.heap.size O/\iz w wr) (λ_ k _=>m-(intOf k).toNat)
   case atStart=>
    exact⟨0,0,O,bN _,rfl,rfl,ag,HO.out,k0,by simp[HV.out],hR,hb⟩
   case round=>
    clear HO HV k0 hR;obtain⟨j,q,O,hj,rfl,rfl,hq,hO,k0,kW,hR,hb⟩:=hrel;have HV:=aol kW;have HO:=aol hO;clear kW hO;by_cases Aw:j<m
    .have IH:j<M.length:=by have:=HM.out;omega
     obtain⟨y,hy⟩:∃ y,y=M[j]:=⟨_,rfl⟩
     have pC:y<4294967296:=by rw[hy];exact hr.ok.get IH
     obtain⟨ab,ao,e1,_,c1⟩:=HXc.out _ (hs.below hb);obtain⟨bb,bo,e2,_,c2⟩:=(hr.below hb).lp IH;have HYS:=aol (show val (M.take (j+1))=val (M.take j)+4294967296^j*y by rw[hy];exact yj M j IH);rw[<-hy]at c2;clear hy IH HXc;subst e1 e2;have hp:i+j<O.length:=by have:=HO.out;omega
     have ho:=bg hp;have aft:O[i+j]<4294967296:=k0.get hp;have c3:=hR.cell ho;have c4:=hR.frozen (i+j);have HS:=aol (Nz (a:=x) (b:=y) (c:=q) ho);generalize O[i+j]=o at *
     clear ho hp;have IW:=λv=>k0.JY (i+j) v
     have HR2:=aol (λv:Nat=>hR.set (i+j) v);have HE2:=aol (λ(n:Nat) (v:Value)=>(below_drewN hb n).setCell (p:=⟨w.heap.size,i+j,none⟩) (aV _) v);have HOK:=aol IW;have HNEW:=aol (show val (L.take i)*val M+4294967296^i*(x*val (M.take (j+1)))=val (L.take i)*val M+4294967296^i*(x*val (M.take j))+4294967296^(i+j)*(x*y)by
      rw[HYS.out,bt x,bt (4294967296^i),aX,cF];congr 2;rw[cE x,bd])
     obtain⟨BN,AE⟩:=amG x y mG pC;generalize x*y=z at *
     have y7:IntKind.u64.wrap ((z:Int)+o)=(z:Int)+o:=by rw[IntKind.wrap_u64];omega
     have tK:IntKind.u64.wrap ((z:Int)+o+q)=(z:Int)+o+q:=by rw[IntKind.wrap_u64];omega
     have uo:=wm (z+o+q) ae;simp only[ey]at uo;have xK:IntKind.i64.wrap ((i:Int)+j)=(i:Int)+j:=i64_in _ ae ae;have wQ:(0:Int)<=i+j:= ae ;have TC:((i:Int)+j).toNat=i+j:= ae ;have hi4:(i:Int)+j<l+m+1:= ae ;go_wp2;go_quiet (fail);go_wp2;go_roundw
     case rel=>
      exact⟨j+1,(z+o+q)/4294967296,O.set (i+j) ((z+o+q)%4294967296),ae,by go_num,by go_num,ae,by rw[cw];exact HO.out,HOK.out _,by rw[HNEW.out,<-HV.out];exact HS.out,HR2.out _,HE2.out _ _⟩
     case measure=>simp[intOf];omega
    .obtain rfl:j=m:= ae 
     have HV2:=aol (show val O+4294967296^(i+j)*q=val (L.take (i+1))*val M by
      rw[HST.out,HV.out,show M.take j=M from ct (by rw[HM.out];exact aV _),bL,bd])
     clear HV;go_wp2;obtain⟨wo,rfl⟩:∃ wo:World,wo=wr:=⟨_,rfl⟩
     go_loopw [7,10] (λcy k wr=>∃ (p q:Nat) (O:List Nat),p<=l+j+1/\k = .int .i64 p/\cy = .int .u64 q/\q<4294967296/\O.length=l+j+1/\iD O/\val O+4294967296^p*q=val (L.take (i+1))*val M/\Rw wr w.heap.size O/\iz w wr) (λ_ k _=>l+j+1-(intOf k).toNat)
     case atStart=>
      exact⟨i+j,q,O,ae,by go_num,rfl,hq,HO.out,k0,HV2.out,hR,hb⟩
     case round=>
      clear HO HV2 k0 hR hq;obtain⟨p,q,O,hp,rfl,rfl,hq,hO,k0,kW,hR,hb⟩:=hrel;have HV:=aol kW;have HO:=aol hO;clear kW hO;by_cases hc:0<q
      .have hpN:p<l+j+1:=abQ HV.out hs.ok hr.ok (by have:=HL.out;omega) HM.out.symm hc (by have:=HL.out;omega)
       have MI:p<O.length:=by have:=HO.out;omega
       have ho:=bg MI;have aft:O[p]<4294967296:=k0.get MI;have c3:=hR.cell ho;have c4:=hR.frozen p;have HS:=aol (K3 (c:=q) ho);generalize O[p]=o at *
       clear ho MI;have HR2:=aol (λv:Nat=>hR.set p v);have HE2:=aol (λv:Value=>hb.setCell (p:=⟨w.heap.size,p,none⟩) (aV _) v);have HOK:=aol (λv=>k0.JY p v);have uo:=wm (o+q) ae;simp only[ey]at uo;have Di:decide ((q:Int)>0)=true:=aT ae;have ux:decide (0<q)=true:=aT hc;go_wp2;go_roundw
       case rel=>
        exact⟨p+1,(o+q)/4294967296,O.set p ((o+q)%4294967296),ae,by go_num,by go_num,ae,by rw[cw];exact HO.out,HOK.out _,by rw[<-HV.out];exact HS.out,HR2.out _,HE2.out _⟩
       case measure=>simp[intOf];omega
      .obtain rfl:q=0:= ae 
       go_wp2;go_roundw
       case rel=>
        exact⟨i+1,O,ae,by go_num,HO.out,k0,by rw[<-HV.out];simp,hR,hb⟩
       case measure=>simp[intOf];omega
  .obtain rfl:i=l:= ae 
   have HF:=aol (show il O=gV (val L*val M)by
    rw[qE k0,HV.out,show L.take i=L from ct (by rw[HL.out];exact aV _)])
   have tJ:=hR.sl k0 (by rw[HO.out];omega);obtain⟨n,hn⟩:∃ n,n=O.length:=⟨_,rfl⟩
   have kj:i+m+1=n:=by rw[hn];exact HO.out.symm
   have hT:=aol (Cc _ _ O _ tJ (by rw[HO.out];omega));rw[HO.out]at hT;clear hn kj;go_wp2_with fail;refine hT.out.mono ?_;rintro e w' ⟨A'',c'',rfl,qM,mA⟩;go_wp2;go_ret;rw[<-HF.out];exact⟨A'',c'',rfl,qM,hb.trans mA⟩
theorem Gi(s:Bool)(A:Option Addr)(c:Nat)(L:List Nat)(e:Int)(w:World)(hs:Sl w A c L)(hlen:L.length<=3000)(kT:-1000000<=e)(kA:e<=1000000):
 Calls prog 186 #[.bool s,.slice A L.length c,.int .i64 e] w (ua w (canon s (val L) e)):=by
 by_cases h0:val L=0
 .have oM:=aol (show canon s (val L) e=jA by unfold canon;rw[aS h0];rfl)
  have MO:il L=[]:=by rw[qE hs.ok,h0,na]
  have hT:=aol (λw (h:Sl w A c L)=>Cc A c L w h ae);rw[MO]at hT;clear MO h0;go_enter func186,ntmps186;go_wp2_with fail;refine(hT.out _ (hs.alloc _)).mono ?_;rintro e w' ⟨A',c',rfl,mR,hb⟩;have bx:=(jk.new w false none 0 0 0).ext hb;have b0:=bx.c0;have b1:=bx.c1;have b2:=bx.c2;have f0:=bx.fr 0;have f1:=bx.fr 1;have f2:=bx.fr 2;go_wp2;rw[oM.out];have hz:gV jA.m=[]:=na;exact sP rfl rfl rfl (bx.set _ _ _ _ _) (by rw[hz];rfl) (by rw[hz];exact bx.qC (Sl.nil _) _ _ _ _ _) (jk.qo ((iz.alloc _ _).trans hb) (aV _) _ _ _ _ _)
 .have oM:=aol (show canon s (val L) e=⟨s,val L/2^jQ (val L),e+jQ (val L)⟩by unfold canon;rw[aR h0])
  have hT:=aol (λw (h:Sl w A c L)=>Cc A c L w h ae);have T6:=oO L;unfold lZ at T6;have hv:=oG L;have k0:=hs.ok.il;generalize il L=M at *
  rw[<-hv]at h0 oM ⊢;clear hv;have hZ:=aol (λA c w (h:Sl w A c M)=>aka A c M w h ae h0);have Au:jQ (val M)<=100000:=by have:=Ep k0 h0;omega
  have hR:=aol (λA c w (h:Sl w A c M)=>aj1 A c M (jQ (val M)) w h ae Au);have sU:M.length≠0:=by intro h;rw[df h]at h0;exact h0 rfl
  generalize val M/2^jQ (val M)=q at *
  generalize jQ (val M)=t at *
  obtain⟨m,hm⟩:∃ m,m=M.length:=⟨_,rfl⟩
  go_enter func186,ntmps186;go_wp2_with fail;refine(hT.out _ (hs.alloc _)).mono ?_;rintro e' w1 ⟨A1,c1,rfl,rW,jb⟩;go_wp2_with fail;refine(hZ.out _ _ _ rW).mono ?_;rintro e' w2 ⟨rfl,rfl⟩;go_wp2_with fail;refine(hR.out _ _ _ rW).mono ?_;rintro e' w2 ⟨A2,c2,rfl,kB,mn⟩;have hb:=jb.trans mn;have bx:=(jk.new w false none 0 0 0).ext hb;have b0:=bx.c0;have b1:=bx.c1;have b2:=bx.c2;have f0:=bx.fr 0;have f1:=bx.fr 1;have f2:=bx.fr 2;go_wp2;rw[oM.out];exact sP rfl rfl rfl (bx.set _ _ _ _ _) rfl (bx.qC kB _ _ _ _ _) (jk.qo ((iz.alloc _ _).trans hb) (aV _) _ _ _ _ _)
theorem acK(A:Option Addr)(c:Nat)(L:List Nat)(w:World)(hs:Sl w A c L)(h1:L.length<=3000)(h0:val L≠0)(hT:Tb w):
 Calls prog 300 #[.slice A L.length c] w λe w'=>e = .returned (.int .i64 (jQ (val L)))/\w=w':=by
 have k0:=hs.ok;have HV:=aol (λi hi h hx=>ab9 k0 i hi h hx);have H0:=aol h0;clear h0;go_enter func300,ntmps300;go_wp2;go_loop [3,8] (λn i=>∃ k:Nat,k<=L.length/\i = .int .i64 k/\n = .int .i64 ((32*k:Nat):Int)/\∀ j,(hj:j<k)->L[j]? = some 0) (λ_ i=>L.length-(intOf i).toNat)
 case atStart=>exact⟨0,bN _,rfl,rfl,λj hj=> ae⟩
 case round=>
  obtain⟨k,hk,rfl,rfl,hz⟩:=hrel;have HZ:=aol hz;clear hz;by_cases iE:k<L.length
  .obtain ⟨ab,ao,rfl,_,c1⟩:=hs.lp iE
   have mG:L[k]<4294967296:=k0.get iE;have HG:=aol (bg iE);have HC:=aol (λhx=>HV.out k iE (λj hj=>by have:=HZ.out j hj;rw[bg ae]at this;simpa using this) hx);clear HV;generalize L[k]=x at *
   by_cases hx:x=0
   .have HX:=aol hx;clear hx
    have hb:((x:Int) != 0)=false:=by have:=HX.out;simp;omega
    go_wp2;go_round
    case rel=>exact⟨k+1,ae,by go_num,by go_num,λj hj=>by
     by_cases e:j=k
     .subst e;rw[HG.out,HX.out]
     .exact HZ.out j ae⟩
    case measure=>simp[intOf];omega
   .have hb:((x:Int) != 0)=true:= av 
    have HX:=aol (HC.out hx);have anv:jQ x<=32:=by
     have h1:=DM hx;rcases dK 32 (jQ x)with h|h
     .have:=ez (a:=2) ag h
      have e:(2:Nat)^32=4294967296:= ag ;omega
     .exact h
    go_wp2_with (go_at_call 355;refine(amy x hx mG _ hT).mono ?_;rintro e w' ⟨rfl,rfl⟩)
    go_ret;exact⟨oE (by rw[HX.out];simp),rfl⟩
  .exfalso
   have:val L=0:=by
    rw[GB];intro y hy;obtain⟨j,hj,rfl⟩:=List.getElem_of_mem hy;have:=HZ.out j ae;rw[bg hj]at this;simpa using this
   exact H0.out this
theorem Hy(s:Bool)(A:Option Addr)(c:Nat)(L:List Nat)(e:Int)(w:World)(hs:Sl w A c L)(_hlen:L.length<=100000)(nD:(il L).length<=256)(kT:-1000000<=e)(kA:e<=1000000)(ks:Tb w):
 Calls prog 255 #[.bool s,.slice A L.length c,.int .i64 e] w (ua w (canon s (val L) e)):=by
 have hT:=aol (λw (h:Sl w A c L)=>acQ A c L w h);have kB:=hs.tW;have hv:=oG L;have k0:=hs.ok.il;have sX:=zP L;generalize il L=M at *
 rw[<-hv];clear hv;by_cases h0:val M=0
 .have oM:=aol (show canon s (val M) e=jA by unfold canon;rw[aS h0];rfl)
  have sU:Hid (M.length=0):=by
   show M.length=0;rw[sX.EC k0,h0,na];rfl
  obtain⟨m,hm⟩:∃ m,m=M.length:=⟨_,rfl⟩
  rw[<-hm]at hT sU;clear hm h0;obtain rfl:m=0:=sU.out;clear sU;go_enter func255,ntmps255;go_wp2_with fail;refine(hT.out _ (hs.alloc _)).mono ?_;rintro e w' ⟨rfl,rfl⟩;have bx:=jk.new w false none 0 0 0;have b0:=bx.c0;have b1:=bx.c1;have b2:=bx.c2;have f0:=bx.fr 0;have f1:=bx.fr 1;have f2:=bx.fr 2;go_wp2;rw[oM.out];have hz:gV jA.m=[]:=na;exact sP rfl rfl rfl bx (by rw[hz];rfl) (by rw[hz];exact Sl.nil _) (iz.alloc _ _)
 .have oM:=aol (show canon s (val M) e=⟨s,val M/2^jQ (val M),e+jQ (val M)⟩by unfold canon;rw[aR h0])
  have hZ:=aol (λA c w (h:Sl w A c M) (ht:Tb w)=>acK A c M w h ae h0 ht);have Au:jQ (val M)<=65536:=by have:=Ep k0 h0;omega
  have hR:=aol (λA c w (h:Sl w A c M)=>VM A c M (jQ (val M)) w h nD Au);have sU:M.length≠0:=by intro h;rw[df h]at h0;exact h0 rfl
  have vE:(gV (val M/2^jQ (val M))).length<=256:=by
   refine rj (bR (bD _ _) ?_);exact bF (mh k0) (bj ag nD)
  generalize val M/2^jQ (val M)=q at *
  generalize jQ (val M)=t at *
  have hK:=aol (λA c w (h:Sl w A c (gV q))=>K7 A c (gV q) w h ae);have hP:=aol (λA c w (h:Sl w A c (gV q))=>K6 A c (gV q) w h);obtain⟨Q,hQ⟩:∃ Q,Q=gV q:=⟨_,rfl⟩
  have HQ:=aol hQ;rw[<-hQ]at hR hK hP vE;clear hQ;go_enter func255,ntmps255;go_wp2_with fail;refine(hT.out _ (hs.alloc _)).mono ?_;rintro e' w1 ⟨rfl,rfl⟩;go_wp2_with fail;refine(hZ.out _ _ _ (kB.alloc _) (ks.alloc _)).mono ?_;rintro e' w2 ⟨rfl,rfl⟩;go_wp2_with fail;refine(hR.out _ _ _ (kB.alloc _)).mono ?_;rintro e' w2 ⟨A2,c2,rfl,afD,mn⟩;go_wp2_with fail;refine(hK.out _ _ _ afD).mono ?_;rintro e' w3 ⟨A3,c3,rfl,Dj,pz⟩;go_wp2_with fail;refine(hP.out _ _ _ Dj).mono ?_;rintro e' w4 ⟨rfl,rfl⟩;have hb:=mn.trans pz;have bx:=(jk.new w false none 0 0 0).ext hb;have b0:=bx.c0;have b1:=bx.c1;have b2:=bx.c2;have f0:=bx.fr 0;have f1:=bx.fr 1;have f2:=bx.fr 2;go_wp2;rw[oM.out];rw[HQ.out]at Dj ⊢;exact sP rfl rfl rfl (bx.set _ _ _ _ _) rfl (bx.qC Dj.Q1 _ _ _ _ _) (jk.qo ((iz.alloc _ _).trans hb) (aV _) _ _ _ _ _)
theorem Lj(A:Option Addr)(c:Nat)(L:List Nat)(w:World)(hs:Sl w A c L)(hlen:L.length<=100000000):
 Calls prog 245 #[.slice A L.length c] w λe w'=>e = .returned (.int .i64 (ie (val L)))/\w=w':=by
 have H:=aol (VF A c L w hs hlen);go_enter func245,ntmps245;go_wp2_with fail;refine H.out.mono ?_;rintro e w' ⟨rfl,rfl⟩;go_wp2;go_ret;exact⟨rfl,rfl⟩
def uC(m:Nat)(e:Int):Bool:=decide (mW ⟨false,m,e⟩)
theorem M4(s:Bool)(A:Option Addr)(c:Nat)(L:List Nat)(e:Int)(w:World)(hs:Sl w A c L)(hlen:L.length<=100000000)(kT:-9223372036854775808<=e)(kA:e<=9223372036854775807):
 Calls prog 167 #[.agg #[.bool s,.slice A L.length c,.int .i64 e]] w λr w'=>r = .returned (.bool (uC (val L) e))/\iz w w':=by
 have H:=aol (λw (h:Sl w A c L)=>Lj A c L w h hlen);have hn:Hid (uC (val L) e=decide (ie (val L)=0\/ie (val L)<=4096 /\ -16384<=e/\e<=16384/\(ie (val L):Int)+e<=16384)):=by
  have h:ie (val L)=0↔val L=0:=by
   constructor
   .intro h;apply bG;intro h0;have:=mY h0;omega
   .intro h;rw[h];rfl
  exact anV.2 (or_congr h.symm Iff.rfl)
 have yO:ie (val L)<=32*L.length:=kR.2 (by rw[<-nP];exact mh hs.ok);generalize ie (val L)=n at *
 generalize uC (val L) e=b at *
 have oq:n=0\/(0<n/\4096<n)\/(0<n/\n<=4096/\e < -16384)\/(0<n/\n<=4096 /\ -16384<=e/\16384<e)\/(0<n/\n<=4096 /\ -16384<=e/\e<=16384/\16384<(n:Int)+e)\/(0<n/\n<=4096 /\ -16384<=e/\e<=16384/\(n:Int)+e<=16384):= ae ;rcases oq with h|⟨h,h1⟩|⟨h,h1,h2⟩|⟨h,h1,h2,h3⟩|⟨h,h1,h2,h3,h4⟩|⟨h,h1,h2,h3,h4⟩
 .subst h
  have hb:b=true:=by rw[hn.out];simp
  clear hn;subst hb;go_enter func167,ntmps167;go_wp2_with fail;refine(H.out _ (hs.alloc _)).mono ?_;rintro r w' ⟨rfl,rfl⟩;go_wp2;go_ret;exact⟨rfl,iz.alloc _ _⟩
 .have hb:b=false:=by rw[hn.out];simp;omega
  have pO:((n:Int)==0)=false:= av ;have rS:decide ((n:Int)<=4096)=false:= av ;clear hn;subst hb;go_enter func167,ntmps167;go_wp2_with fail;refine(H.out _ (hs.alloc _)).mono ?_;rintro r w' ⟨rfl,rfl⟩;go_wp2;go_ret;exact⟨rfl,iz.alloc _ _⟩
 .have hb:b=false:=by rw[hn.out];simp;omega
  have pO:((n:Int)==0)=false:= av ;have rS:decide ((n:Int)<=4096)=true:= av ;have kj:decide (-16384<=e)=false:= av ;clear hn;subst hb;go_enter func167,ntmps167;go_wp2_with fail;refine(H.out _ (hs.alloc _)).mono ?_;rintro r w' ⟨rfl,rfl⟩;go_wp2;go_ret;exact⟨rfl,iz.alloc _ _⟩
 .have hb:b=false:=by rw[hn.out];simp;omega
  have pO:((n:Int)==0)=false:= av ;have rS:decide ((n:Int)<=4096)=true:= av ;have kj:decide (-16384<=e)=true:= av ;have Df:decide (e<=16384)=false:= av ;clear hn;subst hb;go_enter func167,ntmps167;go_wp2_with fail;refine(H.out _ (hs.alloc _)).mono ?_;rintro r w' ⟨rfl,rfl⟩;go_wp2;go_ret;exact⟨rfl,iz.alloc _ _⟩
 .have hb:b=false:=by rw[hn.out];simp;omega
  have pO:((n:Int)==0)=false:= av ;have rS:decide ((n:Int)<=4096)=true:= av ;have kj:decide (-16384<=e)=true:= av ;have Df:decide (e<=16384)=true:= av ;have hn4:decide ((n:Int)+e<=16384)=false:= av ;clear hn;subst hb;go_enter func167,ntmps167;go_wp2_with fail;refine(H.out _ (hs.alloc _)).mono ?_;rintro r w' ⟨rfl,rfl⟩;go_wp2;go_ret;exact⟨rfl,iz.alloc _ _⟩
 .have hb:b=true:=by rw[hn.out];simp;omega
  have pO:((n:Int)==0)=false:= av ;have rS:decide ((n:Int)<=4096)=true:= av ;have kj:decide (-16384<=e)=true:= av ;have Df:decide (e<=16384)=true:= av ;have hn4:decide ((n:Int)+e<=16384)=true:= av ;clear hn;subst hb;go_enter func167,ntmps167;go_wp2_with fail;refine(H.out _ (hs.alloc _)).mono ?_;rintro r w' ⟨rfl,rfl⟩;go_wp2;go_ret;exact⟨rfl,iz.alloc _ _⟩
def oP(s:Bool)(L:List Nat)(e:Int):Prop:=nf L/\L.length<=256/\Dy.ic ⟨s,val L,e⟩
theorem RA(s:Bool)(e:Int):oP s [] e↔s=false/\e=0:=by
 unfold oP;constructor
 .rintro ⟨_,_,hc,_⟩
  rcases hc with⟨_,h1,h2⟩|h
  .exact ⟨h1,h2⟩
  .simp at h
 .rintro ⟨rfl,rfl⟩
  exact⟨nf.nil,aj,rI⟩
theorem Rz{s:Bool}{L:List Nat}{e:Int}{x y:Nat}(hx:L[0]? = some x)(hy:L[L.length-1]? = some y):
 oP s L e↔L.length<=256/\x%2=1/\y≠0/\uC (val L) e=true:=by
 have TV:val L%2=x%2:=by
  cases L with
  |nil=>simp at hx
  |cons z l=>simp at hx;subst hx;simp only[qF];omega
 have sX:nf L↔y≠0:=by
  rw[Bb];obtain⟨h1,h2⟩:=bZ.1 hy;constructor
  .intro h;rw[<-h2];exact h ae 
  .intro h _;rw[h2];exact h
 unfold oP uC;rw[sX,gq];constructor
 .rintro ⟨h1,h2,hc,hr⟩
  have rU:mW ⟨false,val L,e⟩:=hr;refine⟨h2,?_,h1,rU⟩;rcases hc with⟨h,_,_⟩|h
  .exfalso
   have:=(sX.2 h1).zT (by intro h0;subst h0;simp at hx);simp only at h;omega
  .rw [<-TV];exact h
 .rintro ⟨h1,h2,h3,h4⟩
  exact⟨h3,h1,.inr (by show val L%2=1;rw[TV];exact h2),h4⟩
theorem qI{b:Bool}{P:Prop}(h:b=true↔P)(hn:¬P):b=false:=by
 cases b
 .rfl
 .exact absurd (h.1 rfl) hn
theorem KM{b:Bool}{P:Prop}(h:b=true↔P)(hn:P):b=true:=h.2 hn
theorem Qr{b v:Bool}{P:Prop}(h:b=true↔P)(hn:P↔v=true):b=v:=by
 cases b<;>cases v<;>simp_all
theorem Br(s:Bool)(A:Option Addr)(c:Nat)(L:List Nat)(e:Int)(w:World)(b:Bool)(hs:Sl w A c L)(kT:-9223372036854775808<=e)(kA:e<=9223372036854775807)(hb:b=true↔oP s L e):
 Calls prog 92 #[.agg #[.bool s,.slice A L.length c,.int .i64 e]] w λr w'=>r = .returned (.bool b)/\iz w w':=by
 have C8:=hs.cap;have Au:=hs.qf;by_cases hL:L=[]
 .subst hL
  rw[RA]at hb;cases s
  .by_cases h:e=0
   .subst h
    have:b=true:=by simpa using hb
    clear hb;subst this;go_enter func92,ntmps92;go_wp2;go_ret;exact⟨rfl,iz.alloc _ _⟩
   .have:b=false:=qI hb (by simp[h])
    have h':(e==0)=false:= av ;clear hb;subst this;go_enter func92,ntmps92;go_wp2;go_ret;exact⟨rfl,iz.alloc _ _⟩
  .have:b=false:=qI hb aj 
   clear hb;subst this;go_enter func92,ntmps92;go_wp2;go_ret;exact⟨rfl,iz.alloc _ _⟩
 .have sW:0<L.length:=ek.2 hL
  clear hL;obtain⟨ab,ao,rfl,_,c1⟩:=hs.lp sW;obtain⟨ab',ao',e',_,c2⟩:=hs.lp (i:=L.length-1) ae;cases e';have mG:=hs.ok.get sW;have pC:=hs.ok.get (show L.length-1<L.length by omega);rw[Rz (bg sW) (bg (show L.length-1<L.length by omega))]at hb;have c1':w.cell? ⟨ab,ao,none⟩=some (.int .u32 (L[0]:Int)):=c1;clear c1;generalize L[0]=x at *
  generalize L[L.length-1]=y at *
  have HB:=aol hb;clear hb;have H:=aol (λw (h:Sl w (some ⟨ab,ao,none⟩) c L) (hl:L.length<=256)=>M4 s _ c L e w h ae kT kA);obtain⟨n,hn⟩:∃ n,n=L.length:=⟨_,rfl⟩
  rw[<-hn]at sW c2 H HB C8 ⊢;clear hn;generalize uC (val L) e=v at *
  have pO:((n:Int)==0)=false:= av ;by_cases h1:n<=256
  .have rS:decide ((n:Int)<=256)=true:= av 
   by_cases h2:x%2=1
   .have kj:((x:Int)%2==1)=true:= av 
    by_cases h3:y=0
    .have:b=false:=qI HB.out (by simp[h3])
     have Df:((y:Int) != 0)=false:= av ;clear HB;subst this;go_enter func92,ntmps92;go_wp2;go_ret;exact⟨rfl,iz.alloc _ _⟩
    .have:b=v:=Qr HB.out (by simp[h1,h2,h3])
     have Df:((y:Int) != 0)=true:= av ;clear HB;subst this;go_enter func92,ntmps92;go_wp2_with fail;refine(H.out _ (hs.alloc _) h1).mono ?_;rintro r w' ⟨rfl,mA⟩;go_wp2;go_ret;exact⟨rfl,(iz.alloc _ _).trans mA⟩
   .have:b=false:=qI HB.out (λh=>h2 h.2.1)
    have kj:((x:Int)%2==1)=false:= av ;clear HB;subst this;go_enter func92,ntmps92;go_wp2;go_ret;exact⟨rfl,iz.alloc _ _⟩
  .have:b=false:=qI HB.out (λh=>h1 h.1)
   have rS:decide ((n:Int)<=256)=false:= av ;clear HB;subst this;go_enter func92,ntmps92;go_wp2;go_ret;exact⟨rfl,iz.alloc _ _⟩
theorem Nr{n k:Nat}(h:ie n<=32*k):(gV n).length<=k:=rj (by rw[nP];exact kR.1 h)
theorem acB(d:Dy):oP d.neg (gV d.m) d.e↔d.ic:=by
 unfold oP;rw[jC];constructor
 .exact λh=>h.2.2
 .intro h
  refine⟨tX _,?_,h⟩;rcases h.range with h0|⟨h1,_⟩
  .rw [h0,na];simp
  .exact Nr ae 
theorem oP.EC{s:Bool}{L:List Nat}{e:Int}(h:oP s L e)(hk:iD L):L=gV (val L):=h.1.EC hk
theorem oP.len{s:Bool}{L:List Nat}{e:Int}(h:oP s L e):L.length<=256:=h.2.1
theorem oP.bits{s:Bool}{L:List Nat}{e:Int}(h:oP s L e):ie (val L)<=4096:=by
 rcases h.2.2.range with h0|⟨h1,_⟩
 .simp only at h0;rw[h0];decide
 .exact h1
theorem oP.exp{s:Bool}{L:List Nat}{e:Int}(h:oP s L e):-16384<=e/\e<=16384:=by
 rcases h.2.2.range with h0|⟨_,h1,h2,_⟩
 .rcases h.2.2.canon with⟨_,_,h3⟩|h3
  .simp only at h3;omega
  .simp only at h0 h3;omega
 .exact ⟨h1,h2⟩
theorem Ll(s:Bool)(A:Option Addr)(c:Nat)(L:List Nat)(e:Int)(w:World)(hs:Sl w A c L)(hd:oP s L e):
 Calls prog 216 #[.agg #[.bool s,.slice A L.length c,.int .i64 e]] w λr w'=>r = .returned (.int .i64 (Dy.iw ⟨s,val L,e⟩))/\iz w w':=by
 obtain⟨kT,kA⟩:=hd.exp;have hl:=hd.len;have IB:=hd.bits;have HV:=aol (λw (h:Sl w A c L)=>Br s A c L e w true h ae ae (by simp[hd]));have HS:=aol (λw (h:Sl w A c L)=>Lj A c L w h ae);by_cases h0:L=[]
 .subst h0
  go_enter func216,ntmps216;go_wp2_with fail;refine(HV.out _ (hs.alloc _)).mono ?_;rintro r w' ⟨rfl,hb⟩;have bx:=(jk.new w s A 0 c e).ext hb;have b0:=bx.c0;have b1:=bx.c1;have b2:=bx.c2;go_wp2;go_ret;exact⟨rfl,(iz.alloc _ _).trans hb⟩
 .have sW:0<L.length:=ek.2 h0
  have rY:val L≠0:=by have:=hd.1.zT h0;omega
  have ht:=aol (show Dy.iw ⟨s,val L,e⟩=ie (val L)+e by unfold Dy.iw;rw[aR rY]);clear h0 rY;generalize Dy.iw ⟨s,val L,e⟩=t at *
  generalize ie (val L)=q at *
  have hw:IntKind.i64.wrap ((q:Int)+e)=q+e:=i64_in _ ae ae;have pO:((L.length:Int)==0)=false:=aK ae;go_enter func216,ntmps216;go_wp2_with fail;refine(HV.out _ (hs.alloc _)).mono ?_;rintro r w' ⟨rfl,hb⟩;have bx:=(jk.new w s A L.length c e).ext hb;have b0:=bx.c0;have b1:=bx.c1;have b2:=bx.c2;have mR:=(hs.alloc _).below hb;go_wp2_with fail;go_region_held3 (λw'=>w'.cell? ⟨w.heap.size,1,none⟩=some (.slice A L.length c)/\w'.cell? ⟨w.heap.size,2,none⟩=some (.int .i64 e)) (go_keep)
   (first|(go_at_call 245;refine(HS.out _ ?_).mono ?_;(exact mR.drew);rintro r w'' ⟨rfl,rfl⟩))
  go_wp2;go_ret;exact⟨oE (by rw[ht.out]),Below.drew ((iz.alloc _ _).trans hb)⟩
theorem acD(s:Bool)(A:Option Addr)(c:Nat)(L:List Nat)(e:Int)(w:World)(hs:Sl w A c L)(hd:oP s L e):
 Calls prog 306 #[.agg #[.bool s,.slice A L.length c,.int .i64 e]] w λr w'=>r = .returned (.int .i64 (ie (val L)))/\iz w w':=by
 obtain⟨kT,kA⟩:=hd.exp;have hl:=hd.len;have HV:=aol (λw (h:Sl w A c L)=>Br s A c L e w true h ae ae (by simp[hd]));have HS:=aol (λw (h:Sl w A c L)=>Lj A c L w h ae);go_enter func306,ntmps306;go_wp2_with fail;refine(HV.out _ (hs.alloc _)).mono ?_;rintro r w' ⟨rfl,hb⟩;have bx:=(jk.new w s A L.length c e).ext hb;have b0:=bx.c0;have b1:=bx.c1;have b2:=bx.c2;go_wp2_with fail;refine(HS.out _ ((hs.alloc _).below hb)).mono ?_;rintro r w' ⟨rfl,rfl⟩;go_wp2;go_ret;exact⟨rfl,(iz.alloc _ _).trans hb⟩
theorem Li(s:Bool)(A:Option Addr)(c:Nat)(L:List Nat)(e:Int)(w:World)(hs:Sl w A c L)(hd:oP s L e):
 Calls prog 46 #[.agg #[.bool s,.slice A L.length c,.int .i64 e]] w λr w'=>r = .returned (.int .i64 (Dy.iK ⟨s,val L,e⟩))/\iz w w':=by
 obtain⟨kT,kA⟩:=hd.exp;have hl:=hd.len;have HV:=aol (λw (h:Sl w A c L)=>Br s A c L e w true h ae ae (by simp[hd]));by_cases h0:L=[]
 .subst h0
  go_enter func46,ntmps46;go_wp2_with fail;refine(HV.out _ (hs.alloc _)).mono ?_;rintro r w' ⟨rfl,hb⟩;have bx:=(jk.new w s A 0 c e).ext hb;have b0:=bx.c0;have b1:=bx.c1;have b2:=bx.c2;go_wp2;go_ret;exact⟨rfl,(iz.alloc _ _).trans hb⟩
 .have sW:0<L.length:=ek.2 h0
  have rY:val L≠0:=by have:=hd.1.zT h0;omega
  have ht:=aol (show Dy.iK ⟨s,val L,e⟩=if s then -1 else 1 by unfold Dy.iK;rw[aR rY]);clear h0 rY;generalize Dy.iK ⟨s,val L,e⟩=t at *
  have pO:((L.length:Int)==0)=false:=aK ae;go_enter func46,ntmps46;go_wp2_with fail;refine(HV.out _ (hs.alloc _)).mono ?_;rintro r w' ⟨rfl,hb⟩;have bx:=(jk.new w s A L.length c e).ext hb;have b0:=bx.c0;have b1:=bx.c1;have b2:=bx.c2;cases s
  .go_wp2
   go_ret;exact⟨oE (by rw[ht.out];rfl),(iz.alloc _ _).trans hb⟩
  .go_wp2
   go_ret;exact⟨oE (by rw[ht.out];rfl),(iz.alloc _ _).trans hb⟩
theorem adG(e:Int)(w:World)(b:Bool)(hb:b=true↔(-32768<=e/\e<=32768)):
 Calls prog 253 #[.int .i64 e] w λr w'=>r = .returned (.bool b)/\w=w':=by
 by_cases h1:-32768<=e
 .have d1:decide (-32768<=e)=true:=by simpa using h1
  by_cases h2:e<=32768
  .have d2:decide (e<=32768)=true:=by simpa using h2
   have:=KM hb ⟨h1,h2⟩;clear hb;subst this;go_enter func253,ntmps253;go_wp2;go_ret;exact⟨rfl,rfl⟩
  .have d2:decide (e<=32768)=false:=by simpa using h2
   have:=qI hb (λh=>h2 h.2);clear hb;subst this;go_enter func253,ntmps253;go_wp2;go_ret;exact⟨rfl,rfl⟩
 .have d1:decide (-32768<=e)=false:=by simpa using h1
  have:=qI hb (λh=>h1 h.1);clear hb;subst this;go_enter func253,ntmps253;go_wp2;go_ret;exact⟨rfl,rfl⟩
theorem QY(d:Dy)(A:Option Addr)(c:Nat)(w:World)(hs:Sl w A c (gV d.m))(hl:(gV d.m).length<=100000000)(kT:-10000000<=d.e)(kA:d.e<=10000000)(hd:mW d):
 Calls prog 254 #[.agg #[.bool d.neg,.slice A (gV d.m).length c,.int .i64 d.e]] w (tf w d 0):=by
 obtain⟨s,m,e⟩:=d;simp only at *
 have hr:uC m e=true:=by unfold uC;exact aT hd
 have HV:=aol (λw (h:Sl w A c (gV m))=>M4 s A c (gV m) e w h hl ae ae);rw[jC,hr]at HV;clear hr hd;go_enter func254,ntmps254;go_wp2_with fail;refine(HV.out _ ((hs.alloc _).alloc _)).mono ?_;rintro r w' ⟨rfl,hb⟩;have bx:=((jk.new w s A (gV m).length c e).alloc (.cells #[.bool false,.slice none 0 0,.int .i64 0] 39)).ext hb;have by_:=(jk.new (w.alloc (.cells #[.bool s,.slice A (gV m).length c,.int .i64 e] 39)) false none 0 0 0).ext hb;have b0:=bx.c0;have b1:=bx.c1;have b2:=bx.c2;have bz:(w.alloc (.cells #[.bool s,.slice A (gV m).length c,.int .i64 e] 39)).heap.size=w.heap.size+1:= aj ;rw[bz]at by_;have c0:=by_.c0;have c1:=by_.c1;have c2:=by_.c2;have f0:=by_.fr 0;have f1:=by_.fr 1;have f2:=by_.fr 2;have mR:=((hs.alloc (.cells #[.bool s,.slice A (gV m).length c,.int .i64 e] 39)).alloc (.cells #[.bool false,.slice none 0 0,.int .i64 0] 39)).below hb;have mA:iz w w':=((iz.alloc _ _).trans (iz.alloc _ _)).trans hb;clear bz;go_wp2;exact vd rfl rfl rfl rfl (by_.set _ _ _ _ _) rfl (by_.qC mR _ _ _ _ _) (jk.qo mA ae _ _ _ _ _)
theorem abX(d:Dy)(A:Option Addr)(c:Nat)(w:World)(hs:Sl w A c (gV d.m))(hl:(gV d.m).length<=100000000)(kT:-10000000<=d.e)(kA:d.e<=10000000)(hd:¬mW d):
 Calls prog 254 #[.agg #[.bool d.neg,.slice A (gV d.m).length c,.int .i64 d.e]] w (tf w jA 9):=by
 obtain⟨s,m,e⟩:=d;simp only at *
 have hr:uC m e=false:=by unfold uC;exact aU hd
 have HV:=aol (λw (h:Sl w A c (gV m))=>M4 s A c (gV m) e w h hl ae ae);rw[jC,hr]at HV;clear hr hd;go_enter func254,ntmps254;go_wp2_with fail;refine(HV.out _ ((hs.alloc _).alloc _)).mono ?_;rintro r w' ⟨rfl,hb⟩;have by_:=(jk.new (w.alloc (.cells #[.bool s,.slice A (gV m).length c,.int .i64 e] 39)) false none 0 0 0).ext hb;have bz:(w.alloc (.cells #[.bool s,.slice A (gV m).length c,.int .i64 e] 39)).heap.size=w.heap.size+1:= aj ;rw[bz]at by_;have c0:=by_.c0;have c1:=by_.c1;have c2:=by_.c2;have f0:=by_.fr 0;have f1:=by_.fr 1;have f2:=by_.fr 2;have mA:iz w w':=((iz.alloc _ _).trans (iz.alloc _ _)).trans hb;have hz:gV jA.m=[]:=na;have HZ:=aol hz;clear bz hz;go_wp2;exact vd rfl rfl rfl rfl (by_.set _ _ _ _ _) (by rw[HZ.out];rfl) (by rw[HZ.out];exact by_.qC (Sl.nil _) _ _ _ _ _) (jk.qo mA ae _ _ _ _ _)
theorem ahg(s:Bool)(A:Option Addr)(c:Nat)(L:List Nat)(e:Int)(w:World)(hs:Sl w A c L)(hlen:L.length<=256)(kT:-32768<=e)(kA:e<=32768)(ks:Tb w)(hd:mW (canon s (val L) e)):
 Calls prog 362 #[.bool s,.slice A L.length c,.int .i64 e] w (tf w (canon s (val L) e) 0):=by
 have xL:decide (256<(L.length:Int))=false:=aU ae;have HE:=aol (λw=>adG e w true (by simp[kT,kA]));have HC:=aol (λw (h:Sl w A c L) (ht:Tb w)=>Hy s A c L e w h ae (by have:=oO L;unfold lZ at this;omega) ae ae ht);have jb:(gV (canon s (val L) e).m).length<=100000000:=by
  unfold canon;split
  .simp [na]
  .refine aY (rj (k:=256) (bR (bD _ _) ?_)) ag 
   exact bF (mh hs.ok) (bj ag hlen)
 have mn:-10000000<=(canon s (val L) e).e/\(canon s (val L) e).e<=10000000:=by
  unfold canon;split
  .simp
  .rename_i h0
   have:=Ep hs.ok h0;simp only;omega
 obtain⟨mn,pz⟩:=mn;have HK:=aol (λA c w (h:Sl w A c (gV (canon s (val L) e).m))=>QY _ A c w h jb mn pz hd);generalize canon s (val L) e=d at *
 clear hd jb mn pz;go_enter func362,ntmps362;go_wp2_with fail;refine(HE.out _).mono ?_;rintro r w' ⟨rfl,rfl⟩;go_wp2_with fail;refine(HC.out _ (hs.alloc _) (ks.alloc _)).mono ?_;rintro r w1 ⟨A1,c1,rfl,rW,jb⟩;go_wp2_with fail;refine(HK.out _ _ _ rW).mono ?_;rintro r w2 ⟨A2,c2,rfl,kB,mn⟩;have hb:=jb.trans mn;have bx:=(jk.new w false none 0 0 0).ext hb;have b0:=bx.c0;have b1:=bx.c1;have b2:=bx.c2;have f0:=bx.fr 0;have f1:=bx.fr 1;have f2:=bx.fr 2;go_wp2;exact vd rfl rfl rfl rfl (bx.set _ _ _ _ _) rfl (bx.qC kB _ _ _ _ _) (jk.qo ((iz.alloc _ _).trans hb) (aV _) _ _ _ _ _)
theorem amA(x:Nat)(hx:x<4294967296):bits BinOp.and IntKind.u32 (x:Int) 1=((x%2:Nat):Int):=by
 rw[show(1:Int)=((1:Nat):Int)from rfl,bits_and_u32_nat _ _ hx ag,gn]
theorem afY{m:Nat}(h0:m≠0)(e:Int):uC m e=true↔(ie m<=4096 /\ -16384<=e/\e<=16384/\(ie m:Int)+e<=16384):=by
 have h:uC m e=true↔mW ⟨false,m,e⟩:=gq;rw[h];constructor
 .rintro (h|h)
  .exact absurd h h0
  .exact h
 .exact λh=>.inr h
theorem JO(s:Bool)(A:Option Addr)(c:Nat)(L:List Nat)(e:Int)(w:World)(b:Bool)(hs:Sl w A c L)(kT:-9223372036854775808<=e)(kA:e<=9223372036854775807)(hb:b=true↔oP s L e):
 Calls prog 96 #[.agg #[.bool s,.slice A L.length c,.int .i64 e]] w λr w'=>r = .returned (.bool b)/\iz w w':=by
 have C8:=hs.cap;have Au:=hs.qf;by_cases hL:L=[]
 .subst hL
  rw[RA]at hb;cases s
  .by_cases h:e=0
   .subst h
    have:b=true:=by simpa using hb
    clear hb;subst this;go_enter func96,ntmps96;go_wp2;go_ret;exact⟨rfl,iz.alloc _ _⟩
   .have:b=false:=qI hb (by simp[h])
    have h':(e==0)=false:= av ;clear hb;subst this;go_enter func96,ntmps96;go_wp2;go_ret;exact⟨rfl,iz.alloc _ _⟩
  .have:b=false:=qI hb aj 
   clear hb;subst this;go_enter func96,ntmps96;go_wp2;go_ret;exact⟨rfl,iz.alloc _ _⟩
 .have sW:0<L.length:=ek.2 hL
  obtain⟨ab,ao,rfl,_,c1⟩:=hs.lp sW;obtain⟨ab',ao',e',_,c2⟩:=hs.lp (i:=L.length-1) ae;cases e';have mG:=hs.ok.get sW;have pC:=hs.ok.get (show L.length-1<L.length by omega);rw[Rz (bg sW) (bg (show L.length-1<L.length by omega))]at hb;have c1':w.cell? ⟨ab,ao,none⟩=some (.int .u32 (L[0]:Int)):=c1;have Iz:=aol (show L[L.length-1]≠0->nf L from λh=>(Bb L).2 (λ_=>h));have wJ:=aol (show L[L.length-1]≠0->val L≠0 from λh=>by have:=((Bb L).2 (λ_=>h)).zT hL;omega);clear c1 hL;generalize L[0]=x at *
  generalize L[L.length-1]=y at *
  have HB:=aol hb;clear hb;have H:=aol (λw (h:Sl w (some ⟨ab,ao,none⟩) c L) (hl:L.length<=256) (ht:nf L)=>Xr _ c L w h ht ae);have hr:Hid (val L≠0->(uC (val L) e=true↔(ie (val L)<=4096 /\ -16384<=e/\e<=16384/\(ie (val L):Int)+e<=16384))):=λh0=>by
   exact afY h0 e
  obtain⟨n,hn⟩:∃ n,n=L.length:=⟨_,rfl⟩
  rw[<-hn]at sW c2 H HB C8 ⊢;have HN:=aol hn;clear hn;have pO:((n:Int)==0)=false:= av ;by_cases h1:n<=256
  .have rS:decide (256<(n:Int))=false:=aU ae 
   by_cases h3:y=0
   .have:b=false:=qI HB.out (by simp[h3])
    have Df:((y:Int)==0)=true:= av ;clear HB hr;subst this;go_enter func96,ntmps96;go_wp2;go_ret;exact⟨rfl,iz.alloc _ _⟩
   .have Df:((y:Int)==0)=false:=aK ae 
    have hand:=amA x mG;by_cases h2:x%2=1
    .have kj:(bits BinOp.and IntKind.u32 (x:Int) 1==0)=false:=by rw[hand,h2];rfl
     clear hand;have h0:=wJ.out h3;have sX:=Iz.out h3;have yO:ie (val L)<=32*n:=kR.2 (by rw[<-nP,HN.out];exact mh hs.ok);have HB2:Hid (b=true↔(ie (val L)<=4096 /\ -16384<=e/\e<=16384/\(ie (val L):Int)+e<=16384)):=by
      show b=true↔_;rw[HB.out,hr.out h0];simp[h1,h2,h3]
     have H2:=aol (λw h=>H.out w h h1 sX);clear HB hr h0 sX Iz wJ H;generalize ie (val L)=q at *
     by_cases h4:-16384<=e
     .have d4:decide (e < -16384)=false:=aU ae 
      by_cases h5:e<=16384
      .have d5:decide (16384<e)=false:=aU ae 
       by_cases h6:q<=4096
       .have d6:decide ((q:Int)<=4096)=true:=aT ae 
        by_cases h7:(q:Int)+e<=16384
        .have d7:decide ((q:Int)+e<=16384)=true:=aT h7
         have:=KM HB2.out ⟨h6,h4,h5,h7⟩;clear HB2;subst this;go_enter func96,ntmps96;go_wp2_with fail;refine(H2.out _ (hs.alloc _)).mono ?_;rintro r w' ⟨rfl,rfl⟩;go_wp2;go_ret;exact⟨rfl,iz.alloc _ _⟩
        .have d7:decide ((q:Int)+e<=16384)=false:=aU h7
         have:=qI HB2.out (λh=>h7 h.2.2.2);clear HB2;subst this;go_enter func96,ntmps96;go_wp2_with fail;refine(H2.out _ (hs.alloc _)).mono ?_;rintro r w' ⟨rfl,rfl⟩;go_wp2;go_ret;exact⟨rfl,iz.alloc _ _⟩
       .have d6:decide ((q:Int)<=4096)=false:=aU ae 
        have:=qI HB2.out (λh=>h6 h.1);clear HB2;subst this;go_enter func96,ntmps96;go_wp2_with fail;refine(H2.out _ (hs.alloc _)).mono ?_;rintro r w' ⟨rfl,rfl⟩;go_wp2;go_ret;exact⟨rfl,iz.alloc _ _⟩
      .have d5:decide (16384<e)=true:=aT ae 
       have:=qI HB2.out (λh=>h5 h.2.2.1);clear HB2;subst this;go_enter func96,ntmps96;go_wp2;go_ret;exact⟨rfl,iz.alloc _ _⟩
     .have d4:decide (e < -16384)=true:=aT ae 
      have:=qI HB2.out (λh=>h4 h.2.1);clear HB2;subst this;go_enter func96,ntmps96;go_wp2;go_ret;exact⟨rfl,iz.alloc _ _⟩
    .have kj:(bits BinOp.and IntKind.u32 (x:Int) 1==0)=true:=by rw[hand,show x%2=0 by omega];rfl
     have:b=false:=qI HB.out (λh=>h2 h.2.1);clear HB hand hr;subst this;go_enter func96,ntmps96;go_wp2;go_ret;exact⟨rfl,iz.alloc _ _⟩
  .have:b=false:=qI HB.out (λh=>h1 h.1)
   have rS:decide (256<(n:Int))=true:=aT ae;clear HB hr;subst this;go_enter func96,ntmps96;go_wp2;go_ret;exact⟨rfl,iz.alloc _ _⟩
theorem ajQ(e:Int)(w:World)(b:Bool)(hb:b=true↔(-32768<=e/\e<=32768)):
 Calls prog 184 #[.int .i64 e] w λr w'=>r = .returned (.bool b)/\w=w':=by
 by_cases h1:-32768<=e
 .have d1:decide (-32768<=e)=true:=by simpa using h1
  by_cases h2:e<=32768
  .have d2:decide (e<=32768)=true:=by simpa using h2
   have:=KM hb ⟨h1,h2⟩;clear hb;subst this;go_enter func184,ntmps184;go_wp2;go_ret;exact⟨rfl,rfl⟩
  .have d2:decide (e<=32768)=false:=by simpa using h2
   have:=qI hb (λh=>h2 h.2);clear hb;subst this;go_enter func184,ntmps184;go_wp2;go_ret;exact⟨rfl,rfl⟩
 .have d1:decide (-32768<=e)=false:=by simpa using h1
  have:=qI hb (λh=>h1 h.1);clear hb;subst this;go_enter func184,ntmps184;go_wp2;go_ret;exact⟨rfl,rfl⟩
theorem ajN(d:Dy)(A:Option Addr)(c:Nat)(w:World)(hs:Sl w A c (gV d.m))(hl:(gV d.m).length<=100000000)(kT:-10000000<=d.e)(kA:d.e<=10000000)(hd:d.ic):
 Calls prog 185 #[.agg #[.bool d.neg,.slice A (gV d.m).length c,.int .i64 d.e]] w (tf w d 0):=by
 obtain⟨s,m,e⟩:=d;simp only at *
 have HV:=aol (λw (h:Sl w A c (gV m))=>JO s A c (gV m) e w true h ae ae (iff_of_true rfl ((acB ⟨s,m,e⟩).2 hd)));clear hd;go_enter func185,ntmps185;go_wp2_with fail;refine(HV.out _ ((hs.alloc _).alloc _)).mono ?_;rintro r w' ⟨rfl,hb⟩;have bx:=((jk.new w s A (gV m).length c e).alloc (.cells #[.bool false,.slice none 0 0,.int .i64 0] 39)).ext hb;have by_:=(jk.new (w.alloc (.cells #[.bool s,.slice A (gV m).length c,.int .i64 e] 39)) false none 0 0 0).ext hb;have b0:=bx.c0;have b1:=bx.c1;have b2:=bx.c2;have bz:(w.alloc (.cells #[.bool s,.slice A (gV m).length c,.int .i64 e] 39)).heap.size=w.heap.size+1:= aj ;rw[bz]at by_;have c0:=by_.c0;have c1:=by_.c1;have c2:=by_.c2;have f0:=by_.fr 0;have f1:=by_.fr 1;have f2:=by_.fr 2;have mR:=((hs.alloc (.cells #[.bool s,.slice A (gV m).length c,.int .i64 e] 39)).alloc (.cells #[.bool false,.slice none 0 0,.int .i64 0] 39)).below hb;have mA:iz w w':=((iz.alloc _ _).trans (iz.alloc _ _)).trans hb;clear bz;go_wp2;exact vd rfl rfl rfl rfl (by_.set _ _ _ _ _) rfl (by_.qC mR _ _ _ _ _) (jk.qo mA ae _ _ _ _ _)
theorem aj4(s:Bool)(A:Option Addr)(c:Nat)(L:List Nat)(e:Int)(w:World)(hs:Sl w A c L)(ht:nf L):
 Calls prog 53 #[.agg #[.bool s,.slice A L.length c,.int .i64 e]] w λr w'=>r = .returned (.int .i64 (Dy.iK ⟨s,val L,e⟩))/\iz w w':=by
 have hl:=hs.len;by_cases h0:L=[]
 .subst h0
  go_enter func53,ntmps53;go_wp2;go_ret;exact⟨rfl,iz.alloc _ _⟩
 .have sW:0<L.length:=ek.2 h0
  have rY:val L≠0:=by have:=ht.zT h0;omega
  have ht:=aol (show Dy.iK ⟨s,val L,e⟩=if s then -1 else 1 by unfold Dy.iK;rw[aR rY]);clear h0 rY;generalize Dy.iK ⟨s,val L,e⟩=t at *
  have pO:((L.length:Int)==0)=false:=aK ae;cases s
  .go_enter func53,ntmps53
   go_wp2;go_ret;exact⟨oE (by rw[ht.out];rfl),iz.alloc _ _⟩
  .go_enter func53,ntmps53
   go_wp2;go_ret;exact⟨oE (by rw[ht.out];rfl),iz.alloc _ _⟩
theorem aj7(s:Bool)(A:Option Addr)(c:Nat)(L:List Nat)(e:Int)(w:World)(hs:Sl w A c L)(ht:nf L)(hl:L.length<=100000)(kT:-1000000<=e)(kA:e<=1000000):
 Calls prog 171 #[.agg #[.bool s,.slice A L.length c,.int .i64 e]] w λr w'=>r = .returned (.int .i64 (Dy.iw ⟨s,val L,e⟩))/\iz w w':=by
 have HS:=aol (λw (h:Sl w A c L)=>Xr A c L w h ht ae);have yO:ie (val L)<=32*L.length:=kR.2 (by rw[<-nP];exact mh hs.ok);by_cases h0:L=[]
 .subst h0
  go_enter func171,ntmps171;go_wp2;go_ret;exact⟨rfl,iz.alloc _ _⟩
 .have sW:0<L.length:=ek.2 h0
  have rY:val L≠0:=by have:=ht.zT h0;omega
  have ht:=aol (show Dy.iw ⟨s,val L,e⟩=ie (val L)+e by unfold Dy.iw;rw[aR rY]);clear h0 rY;generalize Dy.iw ⟨s,val L,e⟩=t at *
  generalize ie (val L)=q at *
  have hw:IntKind.i64.wrap ((q:Int)+e)=q+e:=i64_in _ ae ae;have pO:((L.length:Int)==0)=false:=aK ae;have mR:=hs.alloc (.cells #[.bool s,.slice A L.length c,.int .i64 e] 39);go_enter func171,ntmps171;go_wp2_with fail;go_region_held3 (λw'=>w'.cell? ⟨w.heap.size,1,none⟩=some (.slice A L.length c)/\w'.cell? ⟨w.heap.size,2,none⟩=some (.int .i64 e)) (go_keep)
   (first|(go_at_call 170;refine(HS.out _ ?_).mono ?_;(exact mR.drew);rintro r w'' ⟨rfl,rfl⟩))
  go_wp2;go_ret;exact⟨oE (by rw[ht.out]),Below.drew (iz.alloc _ _)⟩
theorem ajW(s:Bool)(A:Option Addr)(c:Nat)(L:List Nat)(e:Int)(w:World)(hs:Sl w A c L)(ht:nf L):
 Calls prog 146 #[.agg #[.bool s,.slice A L.length c,.int .i64 e]] w (ua w (iF ⟨s,val L,e⟩)):=by
 have hl:=hs.len;have HL:=aol (ht.EC hs.ok);by_cases h0:L=[]
 .subst h0
  have HZ:=aol na;cases s
  .go_enter func146,ntmps146
   go_wp2;exact sP (d:=iF ⟨false,val [],e⟩) rfl rfl rfl (jk.pD aj _ _ _ _ _) (by show _=(gV 0).length;rw[HZ.out];rfl) (by show Sl _ _ _ (gV 0);rw[HZ.out];exact(hs.alloc _).alloc _) ((iz.alloc _ _).trans (iz.alloc _ _))
  .go_enter func146,ntmps146
   go_wp2;exact sP (d:=iF ⟨true,val [],e⟩) rfl rfl rfl (jk.pD aj _ _ _ _ _) (by show _=(gV 0).length;rw[HZ.out];rfl) (by show Sl _ _ _ (gV 0);rw[HZ.out];exact(hs.alloc _).alloc _) ((iz.alloc _ _).trans (iz.alloc _ _))
 .have sW:0<L.length:=ek.2 h0
  have rY:val L≠0:=by have:=ht.zT h0;omega
  have hd:=aol (show iF ⟨s,val L,e⟩=⟨!s,val L,e⟩by unfold iF;simp[rY]);clear h0 rY ht;rw[hd.out];cases s
  .go_enter func146,ntmps146
   go_wp2;exact sP (d:=⟨!false,val L,e⟩) rfl rfl rfl (jk.pD aj _ _ _ _ _) (by show _=(gV (val L)).length;rw[<-HL.out]) (by show Sl _ _ _ (gV (val L));rw[<-HL.out];exact(hs.alloc _).alloc _) ((iz.alloc _ _).trans (iz.alloc _ _))
  .go_enter func146,ntmps146
   go_wp2;exact sP (d:=⟨!true,val L,e⟩) rfl rfl rfl (jk.pD aj _ _ _ _ _) (by show _=(gV (val L)).length;rw[<-HL.out]) (by show Sl _ _ _ (gV (val L));rw[<-HL.out];exact(hs.alloc _).alloc _) ((iz.alloc _ _).trans (iz.alloc _ _))
theorem ab2{a b:Nat}:kf a b=0↔a=b:=by
 unfold kf;by_cases h:a<b
 .rw [aS h];omega
 .by_cases h':b<a
  .rw [aR h,aS h'];omega
  .rw [aR h,aR h'];omega
theorem ajO(s:Bool)(A:Option Addr)(c:Nat)(L:List Nat)(e:Int)(t:Bool)(B:Option Addr)(d:Nat)(M:List Nat)(f:Int)(w:World)(b:Bool)
 (hs:Sl w A c L) (hr:Sl w B d M) (tL:nf L) (tM:nf M) (h1:L.length<=100000) (_h2:M.length<=100000) (hb:b=true↔(s=t/\e=f/\L=M)):
 Calls prog 83 #[.agg #[.bool s,.slice A L.length c,.int .i64 e],.agg #[.bool t,.slice B M.length d,.int .i64 f]] w λr w'=>r = .returned (.bool b)/\iz w w':=by
 have hE:iz w ((w.alloc (.cells #[.bool s,.slice A L.length c,.int .i64 e] 39)).alloc (.cells #[.bool t,.slice B M.length d,.int .i64 f] 39)):=(iz.alloc _ _).trans (iz.alloc _ _);by_cases h:s=t
 .subst h
  by_cases h':e=f
  .subst h'
   have mA:b=true↔L=M:=by rw[hb];simp
   clear hb;by_cases hl:L.length=M.length
   .have HC:=aol (λw (h:Sl w A c L) (k:Sl w B d M)=>Xs A B c d L M w h k tL tM ae ae)
    have hv:Hid (b=(kf (val L) (val M)==0)):=by
     show b=_;refine Qr mA ?_;rw[gr,ab2];exact⟨λh=>by rw[h],λh=>nf.ext tL tM hs.ok hr.ok h⟩
    generalize kf (val L) (val M)=v at *
    rw[<-hl]at HC hE ⊢;have hse:(e==e)=true:= aj ;have kB:=(hs.alloc (.cells #[.bool s,.slice A L.length c,.int .i64 e] 39)).alloc (.cells #[.bool s,.slice B L.length d,.int .i64 e] 39);have nE:=(hr.alloc (.cells #[.bool s,.slice A L.length c,.int .i64 e] 39)).alloc (.cells #[.bool s,.slice B L.length d,.int .i64 e] 39);clear mA hl tL tM;cases s
    .go_enter func83,ntmps83
     go_wp2_with fail;refine(HC.out _ kB nE).mono ?_;rintro r w' ⟨rfl,jb⟩;go_wp2;go_ret;exact⟨JR hv.out.symm,hE.trans jb⟩
    .go_enter func83,ntmps83
     go_wp2_with fail;refine(HC.out _ kB nE).mono ?_;rintro r w' ⟨rfl,jb⟩;go_wp2;go_ret;exact⟨JR hv.out.symm,hE.trans jb⟩
   .have:=qI mA (λh=>hl (by rw[h]))
    clear mA;subst this;have jJ:((L.length:Int)==M.length)=false:=aK ae;generalize L.length=n at *
    generalize M.length=m at *
    cases s
    .go_enter func83,ntmps83
     go_wp2;go_ret;exact⟨rfl,hE⟩
    .go_enter func83,ntmps83
     go_wp2;go_ret;exact⟨rfl,hE⟩
  .have:=qI hb (λh=>h' h.2.1)
   clear hb;subst this;have jJ:(e==f)=false:=aK h';cases s
   .go_enter func83,ntmps83
    go_wp2;go_ret;exact⟨rfl,hE⟩
   .go_enter func83,ntmps83
    go_wp2;go_ret;exact⟨rfl,hE⟩
 .have:=qI hb (λh'=>h h'.1)
  clear hb;subst this;cases s<;>cases t
  .exact absurd rfl h
  .go_enter func83,ntmps83
   go_wp2;go_ret;exact⟨rfl,hE⟩
  .go_enter func83,ntmps83
   go_wp2;go_ret;exact⟨rfl,hE⟩
  .exact absurd rfl h
theorem Sl.Kg(w:World)(g:Nat)(hg:w.heap.size=g)(y z:Int)(p q:Nat)(e:y=(p:Int))(e':z=(q:Int))(hp:p<4294967296)(hq:q<4294967296):
 Sl (w.alloc (.cells #[.int .u32 y,.int .u32 z] 150)) (some ⟨g,0,none⟩) 2 [p,q]:=by
 subst e e' hg;refine⟨aV _,ag,iD.cons hp (iD.cons hq iD.nil),(λh=>by cases h),λi y hy=>?_⟩;obtain⟨h1,h2⟩:=bZ.1 hy;simp at h1;refine⟨_,_,rfl,aj,?_⟩;rw[bX,World.cell?_alloc_at _ _ _ _ rfl];rcases i with _|_|i
 .simp at h2;subst h2;rfl
 .simp at h2;subst h2;rfl
 .omega
theorem ajT(n:Nat)(w:World)(hn:n<4294967296):
 Calls prog 112 #[.int .i64 n] w (ua w (canon false n 0)):=by
 have hm:=wm n ae;have vD:(n:Int)%4294967296=n:= ae ;rw[vD]at hm;have hd:(n:Int)/4294967296=0:= ae ;have iE:¬(n:Int)<0:= ae ;have Ml:decide ((n:Int)<0)=false:=aU iE;have hu:IntKind.u64.wrap (n:Int)=n:=by rw[IntKind.wrap_u64];omega
 have HC:=aol (λ(A:Option Addr) c w (h:Sl w A c [n,0])=>Gi false A c [n,0] 0 w h aj ag ag);have hv:val [n,0]=n:= aj ;rw[hv]at HC;clear hv;generalize canon false n 0=d at *
 go_enter func112,ntmps112;go_wp2_with fail;refine(HC.out _ _ _ (Sl.Kg _ _ aj _ _ n 0 rfl rfl hn ag)).mono ?_;rintro r w1 ⟨A1,c1,rfl,rW,jb⟩;have jK:iz (w.alloc (.cells #[.bool false,.slice none 0 0,.int .i64 0] 39)) w1:=(iz.alloc _ _).trans jb;have bx:=(jk.new w false none 0 0 0).ext jK;have b0:=bx.c0;have b1:=bx.c1;have b2:=bx.c2;have f0:=bx.fr 0;have f1:=bx.fr 1;have f2:=bx.fr 2;go_wp2;exact sP rfl rfl rfl (bx.set _ _ _ _ _) rfl (bx.qC rW _ _ _ _ _) (jk.qo ((iz.alloc _ _).trans jK) (aV _) _ _ _ _ _)
theorem D1{w:World}{g g' i:Nat}{v a b c:Value}(h:w.cell? ⟨g,i,none⟩=some v)(jJ:g'≠g):
 (((w.setCell ⟨g',0,none⟩ a).setCell ⟨g',1,none⟩ b).setCell ⟨g',2,none⟩ c).cell? ⟨g,i,none⟩=some v:=by
 rw[World.cell?_setCell_other _ _ _ _ an,World.cell?_setCell_other _ _ _ _ an,World.cell?_setCell_other _ _ _ _ an];exact h
end Go.Proofs.YtkjkcjhacddojaaGreatDoor
namespace Go.Proofs.YtkjkcjhacddojaaGreatDoor.Fp
theorem CG(s:Bool)(e:Int):canon s 0 e=jA:=by unfold canon;rw[aS rfl];rfl
theorem Hh(s:Bool)(x:Nat)(k:Int):kY (if s then -(x:Int)else(x:Int)) k=canon s x k:=by
 unfold kY;cases s
 .have h:decide ((x:Int)<0)=false:=aU ae 
  simp only[bq,a7];rw[h,dC]
 .by_cases h:x=0
  .subst h;simp[CG]
  .have h:decide (-(x:Int)<0)=true:=aT ae 
   simp only[bn];rw[h,fg,dC]
theorem Ys{s:Bool}{m n:Nat}{e f k:Int}(hm:m≠0)(hn:n≠0)(hk:min e f=k):
 iJ ⟨s,m,e⟩ ⟨s,n,f⟩=canon s (m*2^(e-k).toNat+n*2^(f-k).toNat) k:=by
 unfold iJ;rw[aR hm,aR hn];simp only[hk];rw[<-Hh];unfold Dy.num Dy.jS;cases s
 .simp
 .simp;congr 1;omega
theorem Yq{s t:Bool}{m n:Nat}{e f k:Int}(hm:m≠0)(hn:n≠0)(hk:min e f=k)(hs:s≠t)(pX:n*2^(f-k).toNat<=m*2^(e-k).toNat):
 iJ ⟨s,m,e⟩ ⟨t,n,f⟩=canon s (m*2^(e-k).toNat-n*2^(f-k).toNat) k:=by
 unfold iJ;rw[aR hm,aR hn];simp only[hk];rw[<-Hh];unfold Dy.num Dy.jS;simp only;generalize m*2^(e-k).toNat=x at *
 generalize n*2^(f-k).toNat=y at *
 congr 1;cases s<;>cases t<;>simp at hs ⊢ <;> omega
theorem Yr{s t:Bool}{m n:Nat}{e f k:Int}(hm:m≠0)(hn:n≠0)(hk:min e f=k)(hs:s≠t)(iE:m*2^(e-k).toNat<n*2^(f-k).toNat):
 iJ ⟨s,m,e⟩ ⟨t,n,f⟩=canon t (n*2^(f-k).toNat-m*2^(e-k).toNat) k:=by
 unfold iJ;rw[aR hm,aR hn];simp only[hk];rw[<-Hh];unfold Dy.num Dy.jS;simp only;generalize m*2^(e-k).toNat=x at *
 generalize n*2^(f-k).toNat=y at *
 congr 1;cases s<;>cases t<;>simp at hs ⊢ <;> omega
theorem agW{L:List Nat}(h:iD L)(n:Nat):(gV (val L*2^n)).length<=L.length+n/32+1:=by
 refine rj ?_;have h1:=mh h;rw[nP]at h1 ⊢;have h2:val L*2^n<2^(32*L.length)*2^n:=cD h1 (aZ ag);rw[<-aX]at h2;exact bF h2 (bj ag ae)
theorem U2{a b k:Nat}(ha:(gV a).length<=k)(hb:(gV b).length<=k):(gV (a+b)).length<=k+1:=by
 refine rj ?_;have h1:=uF ha;have h2:=uF hb;rw[a6];omega
theorem me{a b:Nat}(h:a<=b):(gV a).length<=(gV b).length:=
 rj (bR h (uF (aV _)))
end Go.Proofs.YtkjkcjhacddojaaGreatDoor.Fp
namespace Go.Proofs.YtkjkcjhacddojaaGreatDoor
open Go.RowKit Fp
def my(a b:Dy):Dy:=canon (a.neg != b.neg) (a.m*b.m) (a.e+b.e)
theorem agV{a b k l:Nat}(ha:(gV a).length<=k)(hb:(gV b).length<=l):(gV (a*b)).length<=k+l:=by
 have h1:=uF ha;have h2:=uF hb;refine rj ?_;rw[aX];exact gp h1 h2
theorem Ns{L:List Nat}{k:Nat}(h:iD L)(hl:L.length<=k):(gV (val L)).length<=k:=
 rj (bF (mh h) (bj ag hl))
theorem ajY(s : Bool)(A : Option Addr)(c : Nat)(L : List Nat)(e : Int)(t : Bool)(B : Option Addr)(d : Nat)(M : List Nat)(f : Int)(w : World)
    (hs : Sl w A c L) (hr : Sl w B d M) (h1 : L.length<=1000) (h2 : M.length<=1000) (e1 : -200000<=e) (e2 : e<=200000) (f1 : -200000<=f) (f2 : f<=200000):
    Calls prog 265 #[.agg #[.bool s,.slice A L.length c,.int .i64 e],.agg #[.bool t,.slice B M.length d,.int .i64 f]] w (ua w (my ⟨s,val L,e⟩ ⟨t,val M,f⟩)) := by
  have hE : iz w (((w.alloc (.cells #[.bool s,.slice A L.length c,.int .i64 e] 39)).alloc (.cells #[.bool t,.slice B M.length d,.int .i64 f] 39)).alloc (.cells #[.bool false,.slice none 0 0,.int .i64 0] 39)) := ((iz.alloc _ _).trans (iz.alloc _ _)).trans (iz.alloc _ _);have hw : IntKind.i64.wrap (e+f)=e+f := i64_in _ ae ae;have kS := (((jk.new w s A L.length c e).alloc (.cells #[.bool t,.slice B M.length d,.int .i64 f] 39)).alloc (.cells #[.bool false,.slice none 0 0,.int .i64 0] 39)).drew;have kU := ((jk.pD (W := w.alloc (.cells #[.bool s,.slice A L.length c,.int .i64 e] 39)) (g := w.heap.size+1) aj t B M.length d f).alloc (.cells #[.bool false,.slice none 0 0,.int .i64 0] 39)).drew;have bx3 := (jk.pD (W := (w.alloc (.cells #[.bool s,.slice A L.length c,.int .i64 e] 39)).alloc (.cells #[.bool t,.slice B M.length d,.int .i64 f] 39)) (g := w.heap.size+1+1) aj false none 0 0 0).drew;have uz := (hs.below hE).drew;have yZ := (hr.below hE).drew;have HE := aol (hE.trans (iz.drew _));clear hE;have hlen := agV (a := val L) (b := val M) (k := 1000) (l := 1000) (Ns hs.ok h1) (Ns hr.ok h2);have HO := aol (λA c w (h : Sl w A c (gV (val L*val M))) => Gi (s != t) A c (gV (val L*val M)) (e+f) w h ae ae ae);rw[jC]at HO;have hD : my ⟨s,val L,e⟩ ⟨t,val M,f⟩=canon (s != t) (val L*val M) (e+f) := rfl;rw[hD];have HT := aol (λw (h : Sl w A c L) (k : Sl w B d M) => aj6 A B c d L M w h k ae ae);clear hD hlen;generalize canon (s != t) (val L*val M) (e+f)=D at *
  generalize val L*val M=x at *
  go_enter func265,ntmps265;go_wp2_with fail;go_region_held3 (λw' => w'.cell? ⟨w.heap.size,0,none⟩=some (.bool s)/\w'.cell? ⟨w.heap.size,1,none⟩=some (.slice A L.length c)/\w'.cell? ⟨w.heap.size,2,none⟩=some (.int .i64 e)/\w'.cell? ⟨w.heap.size+1,0,none⟩=some (.bool t)/\w'.cell? ⟨w.heap.size+1,1,none⟩=some (.slice B M.length d)/\w'.cell? ⟨w.heap.size+1,2,none⟩=some (.int .i64 f))
    (first
      |exact⟨kS.c0,kS.c1,kS.c2,kU.c0,kU.c1,kU.c2⟩
      |exact⟨(kS.ext pA).c0,(kS.ext pA).c1,(kS.ext pA).c2,(kU.ext pA).c0,(kU.ext pA).c1,(kU.ext pA).c2⟩
      |exact⟨(kS.ext (pA.trans ki)).c0,(kS.ext (pA.trans ki)).c1,(kS.ext (pA.trans ki)).c2,(kU.ext (pA.trans ki)).c0,(kU.ext (pA.trans ki)).c1,(kU.ext (pA.trans ki)).c2⟩
      |exact⟨D1 (kS.ext (pA.trans ki)).c0 ae,D1 (kS.ext (pA.trans ki)).c1 ae,D1 (kS.ext (pA.trans ki)).c2 ae,D1 (kU.ext (pA.trans ki)).c0 ae,D1 (kU.ext (pA.trans ki)).c1 ae,D1 (kU.ext (pA.trans ki)).c2 ae⟩)
    (first
      | (go_at_call 305
         refine(HT.out _ uz yZ).mono ?_;rintro r wp ⟨Ap,cp,rfl,MM,pA⟩)
      | (go_at_call 186
         refine(HO.out _ _ _ MM).mono ?_;rintro r wo ⟨Ao,co,rfl,hso,ki⟩;have bz := bx3.ext (pA.trans ki);have z0 := bz.c0;have z1 := bz.c1;have z2 := bz.c2;have y0 := bz.fr 0;have y1 := bz.fr 1;have y2 := bz.fr 2))
  go_wp2;exact sP rfl rfl rfl (bz.set _ _ _ _ _) rfl (bz.qC hso _ _ _ _ _) (jk.qo (HE.out.trans (pA.trans ki)) ae _ _ _ _ _)
end Go.Proofs.YtkjkcjhacddojaaGreatDoor
namespace Go.Proofs.YtkjkcjhacddojaaGreatDoor.Fp
theorem ahf{d:Dy}{j k:Int}(h1:j<=k)(h2:k<=d.e):d.jS j=d.jS k*2^(k-j).toNat:=by
 unfold Dy.jS;rw[bd,<-aX];congr 2;omega
theorem Ju{d:Dy}{j k:Int}(h1:j<=k)(h2:k<=d.e):d.num j=d.num k*((2^(k-j).toNat:Nat):Int):=by
 unfold Dy.num;rw[ahf h1 h2];split
 .rw [dN,Int.neg_mul]
 .rw [dN]
theorem vO{d:Dy}(h:d.m=0)(k:Int):d.num k=0:=by
 unfold Dy.num;rw[Vn h];split<;>rfl
def wC(x y:Int):Int:=if x<y then -1 else if y<x then 1 else 0
theorem Q5(x y:Int){p:Nat}(hp:0<p):wC (x*(p:Int)) (y*(p:Int))=wC x y:=by
 unfold wC;have h:(0:Int)<p:= ae ;have a:=@Int.mul_lt_mul_right (p:Int) x y h;have b:=@Int.mul_lt_mul_right (p:Int) y x h;simp only[a,b]
def nS(d:Dy)(k:Int):Prop:=d.m=0\/k<=d.e
theorem nS.num{d:Dy}{j k:Int}(h:nS d k)(hj:j<=k):d.num j=d.num k*((2^(k-j).toNat:Nat):Int):=by
 rcases h with h|h
 .rw [vO h,vO h,Int.zero_mul]
 .exact Ju hj h
theorem CI{a b:Dy}{k:Int}(ha:nS a k)(hb:nS b k):jo a b=wC (a.num k) (b.num k):=by
 have e0:jo a b=wC (a.num (min a.e b.e)) (b.num (min a.e b.e)):=rfl;rw[e0];obtain⟨j,h1,h2⟩:∃ j:Int,j<=k/\j<=min a.e b.e:=⟨min k (min a.e b.e),ae,ae⟩
 have a1:=ha.num h1;have b1:=hb.num h1;have a2:=(show nS a (min a.e b.e)from .inr ae).num h2;have b2:=(show nS b (min a.e b.e)from .inr ae).num h2;rw[<-Q5 _ _ (p:=2^(min a.e b.e-j).toNat) (aZ ag),<-a2,<-b2,a1,b1,Q5 _ _ (aZ ag)]
theorem ahd{s:Bool}{m:Nat}{e k:Int}(h:k<=e):(canon s m e).jS k=m*2^(e-k).toNat:=by
 unfold canon;split
 .rename_i h0;subst h0;simp[Dy.jS]
 .rename_i h0
  unfold Dy.jS;simp only;have e1:=Ew h0
  conv=>rhs;rw[<-e1]
  rw[bd,<-aX];congr 2;omega
theorem B4{s:Bool}{m:Nat}{e k:Int}(h:k<=e):(canon s m e).num k=if s then -((m*2^(e-k).toNat:Nat):Int)else((m*2^(e-k).toNat:Nat):Int):=by
 by_cases h0:m=0
 .subst h0
  rw[vO (by simp[canon])];simp
 .have:(canon s m e).neg=s:=by unfold canon;rw[aR h0]
  unfold Dy.num;rw[ahd h,this]
theorem V1{m:Nat}{e k:Int}(h:k<=e):(canon false m e).num k=((m*2^(e-k).toNat:Nat):Int):=by
 rw[B4 h];simp
theorem NL{z e k:Int}(h:k<=e):(kY z e).num k=z*((2^(e-k).toNat:Nat):Int):=by
 unfold kY;rw[B4 h];by_cases hz:z<0
 .simp only[hz,fK,bn]
  rw[dN,<-Int.neg_mul];congr 1;omega
 .simp only[hz,decide_false]
  rw[dN,show(z.natAbs:Int)=z by omega];simp
theorem Ac{s:Bool}{m:Nat}{e k:Int}(h:k<=e):nS (canon s m e) k:=by
 unfold canon;split
 .exact .inl rfl
 .exact .inr (by simp only;omega)
theorem KB{z e k:Int}(h:k<=e):nS (kY z e) k:=Ac h
theorem J7{a b:Dy}{k:Int}(ha:nS a k)(hb:nS b k):(iJ a b).num k=a.num k+b.num k:=by
 unfold iJ;by_cases h1:a.m=0
 .rw [aS h1,vO h1,Int.zero_add]
 .rw [aR h1]
  by_cases h2:b.m=0
  .rw [aS h2,vO h2,Int.add_zero]
  .rw [aR h2]
   have ea:k<=a.e:=by rcases ha with h|h;exact absurd h h1;exact h
   have eb:k<=b.e:=by rcases hb with h|h;exact absurd h h2;exact h
   have hm:k<=min a.e b.e:= ae ;rw[NL hm,Int.add_mul,<-Ju hm ae,<-Ju hm ae]
theorem GV{a b:Dy}{k:Int}(ha:nS a k)(hb:nS b k):nS (iJ a b) k:=by
 unfold iJ;by_cases h1:a.m=0
 .rw [aS h1];exact hb
 .rw [aR h1]
  by_cases h2:b.m=0
  .rw [aS h2];exact ha
  .rw [aR h2]
   have ea:k<=a.e:=by rcases ha with h|h;exact absurd h h1;exact h
   have eb:k<=b.e:=by rcases hb with h|h;exact absurd h h2;exact h
   exact KB ae 
theorem Bk{a b:Dy}(ha:a.kN)(hb:b.kN):(iJ a b).kN:=by
 unfold iJ;split
 .exact hb
 .split
  .exact ha
  .exact qV _ _ _
theorem Eg{d:Dy}{k:Int}(h:nS d k):nS (iF d) k:=h
theorem FU{d:Dy}(k:Int):(iF d).num k = -(d.num k):=by
 by_cases h:d.m=0
 .rw [vO h,vO (by exact h)];rfl
 .exact V2 d k h
theorem Ln{a b:Dy}(ha:a.kN)(hb:b.kN){k:Int}(h1:nS a k)(h2:nS b k)(h:a.num k=b.num k):a=b:=by
 have zero:∀ {d:Dy},d.kN->d.m=0->d=jA:=by
  intro d hd h0;obtain⟨s,m,e⟩:=d;rcases hd with⟨x,y,z⟩|hd
  .simp only at x y z;subst x y z;rfl
  .simp only at hd h0;omega
 have nz:∀ {d:Dy},d.num k=0->d.m=0:=by
  intro d hd;by_cases h0:d.m=0
  .exact h0
  .exfalso
   have:=vI h0 k;unfold Dy.num at hd;split at hd<;>omega
 by_cases za:a.m=0
 .have zb:b.m=0:=nz (by rw[<-h];exact vO za k)
  rw[zero ha za,zero hb zb]
 .have zb:b.m≠0:=λzb=>za (nz (by rw[h];exact vO zb k))
  have oa:a.m%2=1:=by rcases ha with⟨x,_,_⟩|x;exact absurd x za;exact x
  have ob:b.m%2=1:=by rcases hb with⟨x,_,_⟩|x;exact absurd x zb;exact x
  have ea:k<=a.e:=by rcases h1 with h|h;exact absurd h za;exact h
  have eb:k<=b.e:=by rcases h2 with h|h;exact absurd h zb;exact h
  have pa:=vI za k;have pb:=vI zb k;have hm:a.neg=b.neg/\a.jS k=b.jS k:=by
   unfold Dy.num at h;cases x:a.neg<;>cases y:b.neg<;>simp[x,y]at h<;>first|exact⟨rfl,ae⟩|(exfalso;omega)
  have hc:=congrArg jQ hm.2;unfold Dy.jS at hc;rw[yH oa,yH ob]at hc;have vD:=hm.2;unfold Dy.jS at vD;rw[hc]at vD;have sr:=aoe (aZ ag) vD;obtain⟨s,m,e⟩:=a;obtain⟨t,n,f⟩:=b;simp only at *
  have:e=f:= ae ;rw[hm.1,sr,this]
end Go.Proofs.YtkjkcjhacddojaaGreatDoor.Fp
namespace Go.Proofs.YtkjkcjhacddojaaGreatDoor
open Go.RowKit Fp
theorem J0(A:Option Addr)(c:Nat)(M:List Nat)(n:Int)(w:World)(kB:Sl w A c M)(hlen:M.length<=256)(h0:0<=n)(hn:n<=65536)(ot:(gV (val M*2^n.toNat)).length<=256):
 Calls prog 266 #[.slice A M.length c,.int .i64 n] w (tg w (gV (val M*2^n.toNat))):=by
 obtain⟨k,rfl⟩:=dD h0;exact akZ A c M k w kB hlen ae ot
set_option maxHeartbeats 8000000 in
theorem acI(s : Bool)(A : Option Addr)(c : Nat)(L : List Nat)(e : Int)(t : Bool)(B : Option Addr)(d : Nat)(M : List Nat)(f : Int)(w : World)
    (hs : Sl w A c L) (hr : Sl w B d M) (da : oP s L e) (db : oP t M f) (vq : val L≠0) (sU : val M≠0):
    Calls prog 199 #[.agg #[.bool s,.slice A L.length c,.int .i64 e],.agg #[.bool t,.slice B M.length d,.int .i64 f]] w λr w' => r = .returned (.int .i64 (sN ⟨s,val L,e⟩ ⟨t,val M,f⟩))/\iz w w' := by
  obtain⟨kT,kA⟩ := da.exp;obtain⟨Mp,Mq⟩ := db.exp;have hl := da.len;have hm := db.len;have hE : iz w ((w.alloc (.cells #[.bool s,.slice A L.length c,.int .i64 e] 39)).alloc (.cells #[.bool t,.slice B M.length d,.int .i64 f] 39)) := (iz.alloc _ _).trans (iz.alloc _ _);have kS := ((jk.new w s A L.length c e).alloc (.cells #[.bool t,.slice B M.length d,.int .i64 f] 39)).drew;have kU := (jk.pD (W := w.alloc (.cells #[.bool s,.slice A L.length c,.int .i64 e] 39)) (g := w.heap.size+1) aj t B M.length d f).drew;have uz := (hs.below hE).drew;have yZ := (hr.below hE).drew;have HE := aol (hE.trans (iz.drew _));clear hE;have HTa := aol (λw (h : Sl w A c L) => Ll s A c L e w h da);have HTb := aol (λw (h : Sl w B d M) => Ll t B d M f w h db);have Hlt := aol (λh => Q7 (a := ⟨s,val L,e⟩) (b := ⟨t,val M,f⟩) vq sU h);have Hgt := aol (λh => Q6 (a := ⟨s,val L,e⟩) (b := ⟨t,val M,f⟩) vq sU h);have Hta := aol (show Dy.iw ⟨s,val L,e⟩=ie (val L)+e by unfold Dy.iw;rw[aR vq]);have Htb := aol (show Dy.iw ⟨t,val M,f⟩=ie (val M)+f by unfold Dy.iw;rw[aR sU]);obtain⟨k,hk⟩ : ∃ k,min e f=k := ⟨_,rfl⟩
  have hke : k<=e := ae ;have hkf : k<=f := ae ;have oz : -17000<=k := ae ;have Mz := aol (show k=e\/k=f by omega);have MT : IntKind.i64.wrap (e-k)=e-k := i64_in _ ae ae;have hwf : IntKind.i64.wrap (f-k)=f-k := i64_in _ ae ae;have HM := aol (show sN ⟨s,val L,e⟩ ⟨t,val M,f⟩=kf (val L*2^(e-k).toNat) (val M*2^(f-k).toNat)by unfold sN;simp only[hk];rfl);have Hfa := aol (show ie (val L)+e=ie (val M)+f->ie (val L*2^(e-k).toNat)<=4096 from λh => by
    rw[qt vq];have := da.bits;have := db.bits;have := Mz.out;omega)
  have Hfb := aol (show ie (val L)+e=ie (val M)+f->ie (val M*2^(f-k).toNat)<=4096 from λh => by
    rw[qt sU];have := da.bits;have := db.bits;have := Mz.out;omega)
  have HXa := aol (λw (h : Sl w A c L) ot => J0 A c L (e-k) w h hl ae ae ot);have HXb := aol (λw (h : Sl w B d M) ot => J0 B d M (f-k) w h hm ae ae ot);generalize Dy.iw ⟨s,val L,e⟩=ta at *
  generalize Dy.iw ⟨t,val M,f⟩=tb at *
  generalize sN ⟨s,val L,e⟩ ⟨t,val M,f⟩=R at *
  generalize val L*2^(e-k).toNat=x at *
  generalize val M*2^(f-k).toNat=y at *
  have HC := aol (λA B c d w (h : Sl w A c (gV x)) (k : Sl w B d (gV y)) hx hy => FN A B c d (gV x) (gV y) w h k hx hy);rw[jC,jC]at HC;clear vq sU da db hl hm;go_enter func199,ntmps199;go_wp2_with fail;go_region_held3 (λw' => w'.cell? ⟨w.heap.size,0,none⟩=some (.bool s)/\w'.cell? ⟨w.heap.size,1,none⟩=some (.slice A L.length c)/\w'.cell? ⟨w.heap.size,2,none⟩=some (.int .i64 e)/\w'.cell? ⟨w.heap.size+1,0,none⟩=some (.bool t)/\w'.cell? ⟨w.heap.size+1,1,none⟩=some (.slice B M.length d)/\w'.cell? ⟨w.heap.size+1,2,none⟩=some (.int .i64 f))
    (first
      |exact⟨kS.c0,kS.c1,kS.c2,kU.c0,kU.c1,kU.c2⟩
      |exact⟨(kS.ext iV).c0,(kS.ext iV).c1,(kS.ext iV).c2,(kU.ext iV).c0,(kU.ext iV).c1,(kU.ext iV).c2⟩
      |exact⟨(kS.ext jI).c0,(kS.ext jI).c1,(kS.ext jI).c2,(kU.ext jI).c0,(kU.ext jI).c1,(kU.ext jI).c2⟩
      |exact⟨(kS.ext (iV.trans jI)).c0,(kS.ext (iV.trans jI)).c1,(kS.ext (iV.trans jI)).c2,(kU.ext (iV.trans jI)).c0,(kU.ext (iV.trans jI)).c1,(kU.ext (iV.trans jI)).c2⟩
      |exact⟨(kS.ext (jI.trans iV)).c0,(kS.ext (jI.trans iV)).c1,(kS.ext (jI.trans iV)).c2,(kU.ext (jI.trans iV)).c0,(kU.ext (jI.trans iV)).c1,(kU.ext (jI.trans iV)).c2⟩
      |exact⟨(kS.ext ((iV.trans jI).trans pd)).c0,(kS.ext ((iV.trans jI).trans pd)).c1,(kS.ext ((iV.trans jI).trans pd)).c2,(kU.ext ((iV.trans jI).trans pd)).c0,(kU.ext ((iV.trans jI).trans pd)).c1,(kU.ext ((iV.trans jI).trans pd)).c2⟩
      |exact⟨(kS.ext ((jI.trans iV).trans pd)).c0,(kS.ext ((jI.trans iV).trans pd)).c1,(kS.ext ((jI.trans iV).trans pd)).c2,(kU.ext ((jI.trans iV).trans pd)).c0,(kU.ext ((jI.trans iV).trans pd)).c1,(kU.ext ((jI.trans iV).trans pd)).c2⟩)
    (first
      | (go_at_call_of 216 (Value.agg #[.bool s,.slice A L.length c,.int .i64 e])
         refine(HTa.out _ ?_).mono ?_
         (first|exact uz|exact uz.below jI)
         rintro r wx ⟨rfl,iV⟩)
      | (go_at_call_of 216 (Value.agg #[.bool t,.slice B M.length d,.int .i64 f])
         refine(HTb.out _ ?_).mono ?_
         (first|exact yZ|exact yZ.below iV)
         rintro r wy ⟨rfl,jI⟩))
  first
    | (have qv := iV.trans jI)
    | (have qv := jI.trans iV)
  have cx1 := (kS.ext qv).drew;have cx2 := (kU.ext qv).drew;have kB := (uz.below qv).drew;have nE := (yZ.below qv).drew;have cx1n := (kS.ext qv)
  have cx2n := (kU.ext qv)
  have HF := aol ((HE.out.trans qv).trans (iz.drew _));have HFr := aol (HE.out.trans qv);clear iV jI qv;by_cases h1 : ta<tb
  . have hR := aol (Hlt.out h1)
    go_wp2;go_ret;exact⟨oE hR.out.symm,HFr.out⟩
  . by_cases h2 : tb<ta
    . have hR := aol (Hgt.out h2)
      go_wp2;go_ret;exact⟨oE hR.out.symm,HFr.out⟩
    . have pR : (ie (val L) : Int)+e=ie (val M)+f := by rw[<-Hta.out,<-Htb.out];omega
      have hfa := Nr (k := 128) (Hfa.out pR);have hfb := Nr (k := 128) (Hfb.out pR);have HXa2 := aol (λw h => HXa.out w h ae);have HXb2 := aol (λw h => HXb.out w h ae);have HC2 := aol (λA B c d w h k => HC.out A B c d w h k ae ae);have b0 := cx1n.c0;have b1 := cx1n.c1;have b2 := cx1n.c2;have d0 := cx2n.c0;have d1 := cx2n.c1;have d2 := cx2n.c2;clear pR hfa hfb;go_wp2_with fail;go_region_held3 (λw' => w'.cell? ⟨w.heap.size,0,none⟩=some (.bool s)/\w'.cell? ⟨w.heap.size,1,none⟩=some (.slice A L.length c)/\w'.cell? ⟨w.heap.size,2,none⟩=some (.int .i64 e)/\w'.cell? ⟨w.heap.size+1,0,none⟩=some (.bool t)/\w'.cell? ⟨w.heap.size+1,1,none⟩=some (.slice B M.length d)/\w'.cell? ⟨w.heap.size+1,2,none⟩=some (.int .i64 f))
        (first
          |exact⟨cx1.c0,cx1.c1,cx1.c2,cx2.c0,cx2.c1,cx2.c2⟩
          |exact⟨(cx1.ext iV).c0,(cx1.ext iV).c1,(cx1.ext iV).c2,(cx2.ext iV).c0,(cx2.ext iV).c1,(cx2.ext iV).c2⟩
          |exact⟨(cx1.ext jI).c0,(cx1.ext jI).c1,(cx1.ext jI).c2,(cx2.ext jI).c0,(cx2.ext jI).c1,(cx2.ext jI).c2⟩
          |exact⟨(cx1.ext (iV.trans jI)).c0,(cx1.ext (iV.trans jI)).c1,(cx1.ext (iV.trans jI)).c2,(cx2.ext (iV.trans jI)).c0,(cx2.ext (iV.trans jI)).c1,(cx2.ext (iV.trans jI)).c2⟩
          |exact⟨(cx1.ext (jI.trans iV)).c0,(cx1.ext (jI.trans iV)).c1,(cx1.ext (jI.trans iV)).c2,(cx2.ext (jI.trans iV)).c0,(cx2.ext (jI.trans iV)).c1,(cx2.ext (jI.trans iV)).c2⟩
          |exact⟨(cx1.ext ((iV.trans jI).trans pd)).c0,(cx1.ext ((iV.trans jI).trans pd)).c1,(cx1.ext ((iV.trans jI).trans pd)).c2,(cx2.ext ((iV.trans jI).trans pd)).c0,(cx2.ext ((iV.trans jI).trans pd)).c1,(cx2.ext ((iV.trans jI).trans pd)).c2⟩
          |exact⟨(cx1.ext ((jI.trans iV).trans pd)).c0,(cx1.ext ((jI.trans iV).trans pd)).c1,(cx1.ext ((jI.trans iV).trans pd)).c2,(cx2.ext ((jI.trans iV).trans pd)).c0,(cx2.ext ((jI.trans iV).trans pd)).c1,(cx2.ext ((jI.trans iV).trans pd)).c2⟩)
        (first
          | (go_at_call_of 266 (Value.slice A L.length c)
             refine(HXa2.out _ ?_).mono ?_
             (first|exact kB|exact kB.below jI)
             rintro r wx ⟨Ax,cx,rfl,T3,iV⟩)
          | (go_at_call_of 266 (Value.slice B M.length d)
             refine(HXb2.out _ ?_).mono ?_
             (first|exact nE|exact nE.below iV)
             rintro r wy ⟨Ay,cy,rfl,T4,jI⟩)
          | (go_at_call 220
             refine(HC2.out _ _ _ _ _ ?_ ?_).mono ?_
             (first|exact T3.below jI|exact T3)
             (first|exact T4|exact T4.below iV)
             rintro r wz ⟨rfl,pd⟩))
      all_goals
        go_wp2;go_ret
        (first|exact⟨oE HM.out.symm,HF.out.trans ((iV.trans jI).trans pd)⟩|exact⟨oE HM.out.symm,HF.out.trans ((jI.trans iV).trans pd)⟩)
theorem X8{d:Dy}:d.iK=0↔d.m=0:=by
 rcases Ck d with⟨h1,h2⟩|⟨h1,_,h2⟩|⟨h1,_,h2⟩<;>simp[h1,h2]
theorem acG(s : Bool)(A : Option Addr)(c : Nat)(L : List Nat)(e : Int)(t : Bool)(B : Option Addr)(d : Nat)(M : List Nat)(f : Int)(w : World)
    (hs : Sl w A c L) (hr : Sl w B d M) (da : oP s L e) (db : oP t M f):
    Calls prog 122 #[.agg #[.bool s,.slice A L.length c,.int .i64 e],.agg #[.bool t,.slice B M.length d,.int .i64 f]] w λr w' => r = .returned (.int .i64 (jo ⟨s,val L,e⟩ ⟨t,val M,f⟩))/\iz w w' := by
  obtain⟨kT,kA⟩ := da.exp;obtain⟨Mp,Mq⟩ := db.exp;have HVa := aol (λw (h : Sl w A c L) => Br s A c L e w true h ae ae (by simp[da]));have HVb := aol (λw (h : Sl w B d M) => Br t B d M f w true h ae ae (by simp[db]));have HSa := aol (λw (h : Sl w A c L) => Li s A c L e w h da);have HSb := aol (λw (h : Sl w B d M) => Li t B d M f w h db);have HK := aol (λh1 h2 w (h : Sl w A c L) (k : Sl w B d M) => acI s A c L e t B d M f w h k da db h1 h2);have HP := aol (CJ ⟨s,val L,e⟩ ⟨t,val M,f⟩);have z1 : Hid (Dy.iK ⟨s,val L,e⟩=0↔val L=0) := X8;have z2 : Hid (Dy.iK ⟨t,val M,f⟩=0↔val M=0) := X8;have I0 : Dy.iK ⟨s,val L,e⟩=0\/Dy.iK ⟨s,val L,e⟩ = -1\/Dy.iK ⟨s,val L,e⟩=1 := by
    rcases Ck ⟨s,val L,e⟩with⟨_,h⟩|⟨_,_,h⟩|⟨_,_,h⟩<;>simp[h]
  have nN : sN ⟨s,val L,e⟩ ⟨t,val M,f⟩ = -1\/sN ⟨s,val L,e⟩ ⟨t,val M,f⟩=0\/sN ⟨s,val L,e⟩ ⟨t,val M,f⟩=1 := by
    unfold sN kf;split;simp;split<;>simp
  generalize Dy.iK ⟨s,val L,e⟩=sa at *
  generalize Dy.iK ⟨t,val M,f⟩=sb at *
  generalize sN ⟨s,val L,e⟩ ⟨t,val M,f⟩=cm at *
  generalize jo ⟨s,val L,e⟩ ⟨t,val M,f⟩=R at *
  have y6 : IntKind.i64.wrap (sa*cm)=sa*cm := i64_in _ (by rcases I0 with rfl|rfl|rfl<;>omega) (by rcases I0 with rfl|rfl|rfl<;>omega);have HH := aol I0;clear I0 nN da db;go_enter func122,ntmps122;go_wp2_with fail;refine(HVa.out _ ((hs.alloc _).alloc _)).mono ?_;rintro r w1 ⟨rfl,jb⟩;have kS := ((jk.new w s A L.length c e).alloc (.cells #[.bool t,.slice B M.length d,.int .i64 f] 39)).ext jb;have kU := (jk.pD (W := w.alloc (.cells #[.bool s,.slice A L.length c,.int .i64 e] 39)) (g := w.heap.size+1) aj t B M.length d f).ext jb;have b0 := kS.c0;have b1 := kS.c1;have b2 := kS.c2;have d0 := kU.c0;have d1 := kU.c1;have d2 := kU.c2;have hE := (((iz.alloc w (.cells #[.bool s,.slice A L.length c,.int .i64 e] 39)).trans (iz.alloc _ (.cells #[.bool t,.slice B M.length d,.int .i64 f] 39))).trans jb)
  go_wp2_with fail;refine(HVb.out _ (hr.below hE)).mono ?_;rintro r w2 ⟨rfl,mn⟩;have It := hE.trans mn;have kS := (kS.ext mn).drew;have kU := (kU.ext mn).drew;have uz := (hs.below It).drew;have yZ := (hr.below It).drew;have HE := aol (It.trans (iz.drew _));clear hE It jb mn b0 b1 b2 d0 d1 d2;go_wp2_with fail;go_region_held3 (λw' => w'.cell? ⟨w.heap.size,0,none⟩=some (.bool s)/\w'.cell? ⟨w.heap.size,1,none⟩=some (.slice A L.length c)/\w'.cell? ⟨w.heap.size,2,none⟩=some (.int .i64 e)/\w'.cell? ⟨w.heap.size+1,0,none⟩=some (.bool t)/\w'.cell? ⟨w.heap.size+1,1,none⟩=some (.slice B M.length d)/\w'.cell? ⟨w.heap.size+1,2,none⟩=some (.int .i64 f))
    (first
      |exact⟨kS.c0,kS.c1,kS.c2,kU.c0,kU.c1,kU.c2⟩
      |exact⟨(kS.ext iV).c0,(kS.ext iV).c1,(kS.ext iV).c2,(kU.ext iV).c0,(kU.ext iV).c1,(kU.ext iV).c2⟩
      |exact⟨(kS.ext jI).c0,(kS.ext jI).c1,(kS.ext jI).c2,(kU.ext jI).c0,(kU.ext jI).c1,(kU.ext jI).c2⟩
      |exact⟨(kS.ext (iV.trans jI)).c0,(kS.ext (iV.trans jI)).c1,(kS.ext (iV.trans jI)).c2,(kU.ext (iV.trans jI)).c0,(kU.ext (iV.trans jI)).c1,(kU.ext (iV.trans jI)).c2⟩
      |exact⟨(kS.ext (jI.trans iV)).c0,(kS.ext (jI.trans iV)).c1,(kS.ext (jI.trans iV)).c2,(kU.ext (jI.trans iV)).c0,(kU.ext (jI.trans iV)).c1,(kU.ext (jI.trans iV)).c2⟩)
    (first
      | (go_at_call_of 46 (Value.agg #[.bool s,.slice A L.length c,.int .i64 e])
         refine(HSa.out _ ?_).mono ?_
         (first|exact uz|exact uz.below jI)
         rintro r wx ⟨rfl,iV⟩)
      | (go_at_call_of 46 (Value.agg #[.bool t,.slice B M.length d,.int .i64 f])
         refine(HSb.out _ ?_).mono ?_
         (first|exact yZ|exact yZ.below iV)
         rintro r wy ⟨rfl,jI⟩))
  first
    | (have qv := iV.trans jI)
    | (have qv := jI.trans iV)
  have cx1 := (kS.ext qv)
  have cx2 := (kU.ext qv)
  have kB := (uz.below qv)
  have nE := (yZ.below qv)
  have HFr := aol (HE.out.trans qv);clear iV jI qv;by_cases h1 : sa<sb
  . have hR := aol (show R = -1 by rw[HP.out,aS h1])
    go_wp2;go_ret;exact⟨oE hR.out.symm,HFr.out⟩
  . by_cases h2 : sb<sa
    . have hR := aol (show R=1 by rw[HP.out,aR h1,aS h2])
      go_wp2;go_ret;exact⟨oE hR.out.symm,HFr.out⟩
    . by_cases h3 : sa=0
      . have hR := aol (show R=0 by rw[HP.out,aR h1,aR h2,aS h3])
        have hz : (sa==0)=true := by simp[h3]
        go_wp2;go_ret;exact⟨oE hR.out.symm,HFr.out⟩
      . have hR := aol (show R=sa*cm by rw[HP.out,aR h1,aR h2,aR h3])
        have hz : (sa==0)=false := aK h3;have HK2 := aol (HK.out (λh => h3 (z1.out.2 h)) (λh => h3 (by have := z2.out.2 h;omega)));have b0 := cx1.c0;have b1 := cx1.c1;have b2 := cx1.c2;have d0 := cx2.c0;have d1 := cx2.c1;have d2 := cx2.c2;go_wp2_with fail;refine(HK2.out _ kB nE).mono ?_;rintro r w3 ⟨rfl,pz⟩;go_wp2;go_ret;exact⟨oE hR.out.symm,HFr.out.trans pz⟩
theorem U7:gV 1=[1]:=by rw[zh ag];simp[na]
theorem QS{L:List Nat}(h:iD L)(hl:L.length<=256)(s:Bool)(e:Int):(gV (canon s (val L) e).m).length<=100000000:=by
 unfold canon;split
 .simp [na]
 .refine aY (rj (k:=256) (bR (bD _ _) ?_)) ag 
  exact bF (mh h) (bj ag hl)
theorem QQ{L:List Nat}(h:iD L)(hl:L.length<=256)(s:Bool)(e:Int)(h1:-9000000<=e)(h2:e<=9000000):-10000000<=(canon s (val L) e).e/\(canon s (val L) e).e<=10000000:=by
 unfold canon;split
 .simp
 .rename_i h0
  have:=Ep h h0;simp only;omega
theorem aj3(s:Bool)(A:Option Addr)(c:Nat)(L:List Nat)(e k:Int)(w:World)(hs:Sl w A c L)(hd:oP s L e)(oz:-32768<=k)(sV:k<=32768)(hr:mW (canon s (val L) (e+k))):
 Calls prog 111 #[.agg #[.bool s,.slice A L.length c,.int .i64 e],.int .i64 k] w (tf w (canon s (val L) (e+k)) 0):=by
 obtain⟨kT,kA⟩:=hd.exp;have hlen:=hd.len;have HV:=aol (λw (h:Sl w A c L)=>JO s A c L e w true h ae ae (by simp[hd]));have HX:=aol (λw=>ajQ k w true (by simp[oz,sV]));have hw:IntKind.i64.wrap (e+k)=e+k:=i64_in _ ae ae;have HC:=aol (λw (h:Sl w A c L)=>Gi s A c L (e+k) w h ae ae ae);have jb:=QS hs.ok hlen s (e+k);obtain⟨mn,pz⟩:=QQ hs.ok hlen s (e+k) ae ae;have hv:(canon s (val L) (e+k)).ic:=⟨qV _ _ _,hr⟩
 have HK:=aol (λA c w (h:Sl w A c (gV (canon s (val L) (e+k)).m))=>ajN _ A c w h jb mn pz hv);generalize canon s (val L) (e+k)=D at *
 clear hd hr hv jb mn pz;go_enter func111,ntmps111;go_wp2_with fail;refine(HV.out _ ((hs.alloc _).alloc _)).mono ?_;rintro r w1 ⟨rfl,jb⟩;have kS:=((jk.new w s A L.length c e).alloc (.cells #[.bool false,.slice none 0 0,.int .i64 0] 39)).ext jb;have kU:=(jk.pD (W:=w.alloc (.cells #[.bool s,.slice A L.length c,.int .i64 e] 39)) (g:=w.heap.size+1) aj false none 0 0 0).ext jb;have b0:=kS.c0;have b1:=kS.c1;have b2:=kS.c2;have hE:=(((iz.alloc w (.cells #[.bool s,.slice A L.length c,.int .i64 e] 39)).trans (iz.alloc _ (.cells #[.bool false,.slice none 0 0,.int .i64 0] 39))).trans jb)
 have uz:=hs.below hE;have HE:=aol hE;clear hE jb;go_wp2_with fail;refine(HX.out _).mono ?_;rintro r w2 ⟨rfl,rfl⟩;go_wp2_with fail;refine(HC.out _ uz).mono ?_;rintro r w2 ⟨A1,c1,rfl,rW,mn⟩;go_wp2_with fail;refine(HK.out _ _ _ rW).mono ?_;rintro r w3 ⟨A2,c2,rfl,kB,pz⟩;have bz:=kU.ext (mn.trans pz);have z0:=bz.c0;have z1:=bz.c1;have z2:=bz.c2;have f0:=bz.fr 0;have f1:=bz.fr 1;have f2:=bz.fr 2;go_wp2;exact vd rfl rfl rfl rfl (bz.set _ _ _ _ _) rfl (bz.qC kB _ _ _ _ _) (jk.qo (HE.out.trans (mn.trans pz)) ae _ _ _ _ _)
abbrev DV(d:Dy)(A:Option Addr)(c:Nat):Value:=.agg #[.bool d.neg,.slice A (gV d.m).length c,.int .i64 d.e]
theorem FB{n k:Nat}(h:ie n<=32*k):(gV n).length<=k:=by
 refine rj (bF (oY _) ?_);rw[nP];exact bj ag h
theorem Fp.Dy.ic.vc{d:Dy}(h:d.ic):oP d.neg (gV d.m) d.e:=by
 refine⟨tX _,FB ?_,by rw[jC];exact h⟩;rcases h.range with h0|⟨h1,_⟩
 .rw [h0];exact bN _
 .omega
theorem Fp.Dy.ic.len{d:Dy}(h:d.ic):(gV d.m).length<=256:=h.vc.2.1
theorem Fp.Dy.ic.exp{d:Dy}(h:d.ic):-16384<=d.e/\d.e<=16384:=h.vc.exp
theorem Fp.Dy.ic.bits{d:Dy}(h:d.ic):ie d.m<=4096:=by have:=h.vc.bits;rwa[jC]at this
theorem Fp.Dy.ic.YO{d:Dy}(h:d.ic)(h0:d.m≠0):(ie d.m:Int)+d.e<=16384:=by
 rcases h.range with h|⟨_,_,_,h⟩
 .exact absurd h h0
 .exact h
theorem jk.yL{w:World}{g n c:Nat}{s:Bool}{A:Option Addr}{e:Int}(h:jk w g s A n c e){g':Nat}(jJ:g'≠g)(i:Nat)(v:Value):jk (w.setCell ⟨g',i,none⟩ v) g s A n c e:=by
 unfold jk at h ⊢;simp only[World.setCell,eK];rw[aR jJ];exact h
theorem jk.xz{w:World}{g n c:Nat}{s:Bool}{A:Option Addr}{e:Int}(h:jk w g s A n c e){g':Nat}(jJ:g'≠g)(v0 v1 v2:Value):
 jk (((w.setCell ⟨g',0,none⟩ v0).setCell ⟨g',1,none⟩ v1).setCell ⟨g',2,none⟩ v2) g s A n c e:=((h.yL jJ 0 v0).yL jJ 1 v1).yL jJ 2 v2
structure uX(d:Dy):Prop where
 len:(gV d.m).length<=256
 lo:-17000<=d.e
 hi:d.e<=17000
theorem Fp.Dy.ic.rE{d:Dy}(h:d.ic):uX d:=⟨h.len,by have:=h.exp;omega,by have:=h.exp;omega⟩
theorem ajZ(a b:Dy)(A B:Option Addr)(c d:Nat)(w:World)(h:Sl w A c (gV a.m))(k:Sl w B d (gV b.m))(ha:uX a)(hb:uX b):
 Calls prog 265 #[DV a A c,DV b B d] w (ua w (my a b)):=by
 have:=ajY a.neg A c (gV a.m) a.e b.neg B d (gV b.m) b.e w h k (by have:=ha.len;omega) (by have:=hb.len;omega) (by have:=ha.lo;omega) (by have:=ha.hi;omega) (by have:=hb.lo;omega) (by have:=hb.hi;omega);rw[jC,jC]at this;exact this
theorem ajP(a b:Dy)(A B:Option Addr)(c d:Nat)(w:World)(r:Bool)(h:Sl w A c (gV a.m))(k:Sl w B d (gV b.m))(ha:(gV a.m).length<=100000)(hb:(gV b.m).length<=100000)(hr:r=true↔a=b):
 Calls prog 83 #[DV a A c,DV b B d] w λe w'=>e = .returned (.bool r)/\iz w w':=
 ajO a.neg A c (gV a.m) a.e b.neg B d (gV b.m) b.e w r h k (tX _) (tX _) ha hb (by
  rw[hr];obtain⟨s,m,e⟩:=a;obtain⟨t,n,f⟩:=b;simp only[Dy.mk.injEq];constructor
  .rintro ⟨x,y,z⟩;exact⟨x,z,by rw[y]⟩
  .rintro ⟨x,y,z⟩
   have:=congrArg val z;rw[jC,jC]at this;exact⟨x,this,y⟩)
theorem acH(a b:Dy)(A B:Option Addr)(c d:Nat)(w:World)(h:Sl w A c (gV a.m))(k:Sl w B d (gV b.m))(ha:a.ic)(hb:b.ic):
 Calls prog 122 #[DV a A c,DV b B d] w λe w'=>e = .returned (.int .i64 (jo a b))/\iz w w':=by
 have:=acG a.neg A c (gV a.m) a.e b.neg B d (gV b.m) b.e w h k ha.vc hb.vc;rw[jC,jC]at this;exact this
theorem acE(a:Dy)(A:Option Addr)(c:Nat)(w:World)(h:Sl w A c (gV a.m))(ha:a.ic):
 Calls prog 306 #[DV a A c] w λe w'=>e = .returned (.int .i64 (ie a.m))/\iz w w':=by
 have:=acD a.neg A c (gV a.m) a.e w h ha.vc;rw[jC]at this;exact this
theorem acL(a:Dy)(A:Option Addr)(c:Nat)(w:World)(h:Sl w A c (gV a.m))(ha:a.ic):
 Calls prog 46 #[DV a A c] w λe w'=>e = .returned (.int .i64 a.iK)/\iz w w':=by
 have:=Li a.neg A c (gV a.m) a.e w h ha.vc;rw[jC]at this;exact this
theorem HW(a:Dy)(A:Option Addr)(c:Nat)(w:World)(h:Sl w A c (gV a.m))(ha:a.ic):
 Calls prog 92 #[DV a A c] w λe w'=>e = .returned (.bool true)/\iz w w':=
 Br a.neg A c (gV a.m) a.e w true h (by have:=ha.exp;omega) (by have:=ha.exp;omega) (by simp[ha.vc])
open Pu
theorem PH:∀ w w',Tb w->Below w.heap.size w w'->Tb w':=λ_ _ h hb=>h.below hb
theorem mixed:prog.follows .mixedOrders=true:= ah 
abbrev gW(f:FuncId)(args:List E)(jZ:E):Prop:=PC prog Tb f args jZ
def gY(L:List Nat):E:=.sl false L.length 1 λi _=>.v (.int .u32 (L.getD i 0:Int))
def gZ(d:Dy):E:=.agg [.v (.bool d.neg),gY (gV d.m),.v (.int .i64 d.e)]
abbrev iP(z:Int):E:=.v (.int .i64 z)
abbrev bP(b:Bool):E:=.v (.bool b)
theorem uO{bs br:Nat->Prop}{w:World}{L:List Nat}{v:Value}(hk:iD L)(h:iH bs br w (gY L) v):∃ A c,v = .slice A L.length c/\Sl w A c L:=by
 cases h with
 |sl _ _ _ _ A c f hc hm h0 hl hr cell kk=>
  refine⟨A,c,rfl,hc,hm,hk,h0,λi x hx=>?_⟩;obtain⟨hi,oX⟩:=bZ.1 hx;obtain⟨b,o,e1,_,iE,lq⟩:=cell i 0 hi ag;have hv:=iH.kP (kk i 0 hi ag);refine⟨b,o,e1,iE,?_⟩;rw[bQ,bB,hv]at lq;rw[lq];simp[aW,hx]
theorem yg{B br:Nat->Prop}{w w':World}{A:Option Addr}{c:Nat}{L:List Nat}(hB:∀ b,B b->b<w.heap.size/\oR w b)(hb:iz w w')(h:Sl w' A c L):iH B br w' (gY L) (.slice A L.length c):=by
 refine .sl false L.length 1 _ A c (λi _=>.int .u32 (L.getD i 0:Int)) h.cap h.qf h.xh (λi j _ _=>⟨rfl,λh=>by cases h⟩) (λi j _ _=>rfl) (λi j hi hj=>?_) (λi j _ _=>.v _)
 .obtain rfl:j=0:= ae 
  obtain⟨b,o,e1,iE,lq⟩:=h.lp hi;have e2:L.getD i 0=L[i]:=by simp[aW,hi]
  refine⟨b,o,e1,λxH=>?_,iE,by rw[bQ,bB,lq,e2]⟩;obtain⟨h1,h2⟩:=hB b xH;exact(h2.DI (hb.block b h1)) _ _ lq
theorem Hz{bs br:Nat->Prop}{w:World}{d:Dy}{v:Value}(h:iH bs br w (gZ d) v):∃ A c,v=DV d A c/\Sl w A c (gV d.m):=by
 obtain⟨vs,rfl,q⟩:=iH.CA (show iH bs br w (.agg _) v from h);obtain⟨v1,vs,rfl,h1,q⟩:=q.mg;obtain⟨v2,vs,rfl,h2,q⟩:=q.mg;obtain⟨v3,vs,rfl,h3,q⟩:=q.mg;obtain rfl:=q.qk;obtain rfl:=iH.kP h1;obtain rfl:=iH.kP h3;obtain⟨A,c,rfl,hs⟩:=uO (kE _) h2;exact⟨A,c,rfl,hs⟩
theorem RK{B br:Nat->Prop}{w w':World}{A:Option Addr}{c:Nat}{d:Dy}(hB:∀ b,B b->b<w.heap.size/\oR w b)(hb:iz w w')(h:Sl w' A c (gV d.m)):iH B br w' (gZ d) (DV d A c):=
 ku.agg (.cons (.v _) (.cons (yg hB hb h) (.cons (.v _) (.nil _ _ _))))
section
variable {f:FuncId} {a b:Dy}
theorem xV(hc:∀ (vs:Array Value) (w:World),(callFunc f vs).run prog w = .ok (.enter f vs) w){jZ:E}{R:World->Ending->World->Prop}
 (H:∀ A c w,Sl w A c (gV a.m)->Tb w->Calls prog f #[DV a A c] w (R w)) (hR:∀ (B:Nat->Prop) w e w',(∀ b,B b->b<w.heap.size/\oR w b)->R w e w'->∃ v,e = .returned v/\Below w.heap.size w w'/\iH B (λ_=>True) w' jZ v):gW f [gZ a] jZ:=by
 refine⟨hc,λw B vs hK hB hr=>?_⟩;obtain⟨v1,vs,rfl,h1,hr⟩:=hr.mg;obtain rfl:=hr.qk;obtain⟨A,c,rfl,s1⟩:=Hz h1;exact(H A c w s1 hK).mono λe w' h=>hR B w e w' hB h
theorem FZ(hc:∀ (vs:Array Value) (w:World),(callFunc f vs).run prog w = .ok (.enter f vs) w){jZ:E}{R:World->Ending->World->Prop}
 (H:∀ A c A' c' w,Sl w A c (gV a.m)->Sl w A' c' (gV b.m)->Tb w->Calls prog f #[DV a A c,DV b A' c'] w (R w)) (hR:∀ (B:Nat->Prop) w e w',(∀ b,B b->b<w.heap.size/\oR w b)->R w e w'->∃ v,e = .returned v/\Below w.heap.size w w'/\iH B (λ_=>True) w' jZ v):gW f [gZ a,gZ b] jZ:=by
 refine⟨hc,λw B vs hK hB hr=>?_⟩;obtain⟨v1,vs,rfl,h1,hr⟩:=hr.mg;obtain⟨v2,vs,rfl,h2,hr⟩:=hr.mg;obtain rfl:=hr.qk;obtain⟨A,c,rfl,s1⟩:=Hz h1;obtain⟨A',c',rfl,s2⟩:=Hz h2;exact(H A c A' c' w s1 s2 hK).mono λe w' h=>hR B w e w' hB h
end
theorem rv{x:Value}:∀ (B:Nat->Prop) (w:World) (e:Ending) (w':World),(∀ b,B b->b<w.heap.size/\oR w b)->(e = .returned x/\iz w w')->∃ v,e = .returned v/\Below w.heap.size w w'/\iH B (λ_=>True) w' (.v x) v:=
 λ_ _ _ _ _ h=>⟨x,h.1,h.2,.v x⟩
theorem rd{d:Dy}:∀ (B:Nat->Prop) (w:World) (e:Ending) (w':World),(∀ b,B b->b<w.heap.size/\oR w b)->ua w d e w'->∃ v,e = .returned v/\Below w.heap.size w w'/\iH B (λ_=>True) w' (gZ d) v:=
 λ_ _ _ _ hB ⟨_,_,h1,h2,h3⟩=>⟨_,h1,h3,RK hB h3 h2⟩
theorem Gh{d:Dy}{n:Int}:∀ (B:Nat->Prop) (w:World) (e:Ending) (w':World),(∀ b,B b->b<w.heap.size/\oR w b)->tf w d n e w'->∃ v,e = .returned v/\Below w.heap.size w w'/\iH B (λ_=>True) w' (.ix [gZ d,iP n]) v:=
 λ_ _ _ _ hB ⟨_,_,h1,h2,h3⟩=>⟨_,h1,h3,ku.ix (.cons (RK hB h3 h2) (.cons (.v _) (.nil _ _ _)))⟩
theorem wa:E.le (.agg [bP false,.v (.slice none 0 0),iP 0]) (gZ jA):=by
 have:gZ jA = .agg [bP false,.sl false 0 1 λi _=>.v (.int .u32 (((gV 0).getD i 0:Nat):Int)),iP 0]:=by
  show E.agg [bP false,gY (gV 0),iP 0]=_;unfold gY;rw[na];rfl
 rw[this];exact .agg (.cons (.refl _) (.cons (.nil _ _ _) (.cons (.refl _) .nil)))
theorem oe(a b:Dy)(ha:a.ic)(hb:b.ic):gW 122 [gZ a,gZ b] (iP (jo a b)):=FZ call122 (λA c A' c' w h k _=>acH a b A A' c c' w h k ha hb) rv
theorem og(a:Dy)(ha:a.ic):gW 46 [gZ a] (iP a.iK):=xV call46 (λA c w h _=>acL a A c w h ha) rv
theorem qu(a:Dy)(ha:a.ic):gW 92 [gZ a] (bP true):=xV call92 (λA c w h _=>HW a A c w h ha) rv
theorem Hw(a:Dy)(ha:a.ic):gW 306 [gZ a] (iP (ie a.m)):=xV call306 (λA c w h _=>acE a A c w h ha) rv
theorem aj0(a b:Dy)(ha:uX a)(hb:uX b):gW 265 [gZ a,gZ b] (gZ (my a b)):=FZ call265 (λA c A' c' w h k _=>ajZ a b A A' c c' w h k ha hb) rd
def TT:List TI:=[
 ⟨3,.int .i64,⟨.int .i64, "int", 1,8,false,8,8,some (.int .i64 0),true,#[]⟩⟩,
 ⟨4,.bool,⟨.bool, "bool", 1,1,false,1,1,some (.bool false),true,#[]⟩⟩,
 ⟨9,.string,⟨.string, "string", 1,16,true,8,8,some (.string ⟨#[]⟩),true,#[]⟩⟩,
 ⟨22,.slice 74,⟨.slice 74, "[]api.Op", 1,24,true,8,8,some (.slice none 0 0),false,#[]⟩⟩,
 ⟨23,.slice 3,⟨.slice 3, "[]int", 1,24,true,8,8,some (.slice none 0 0),false,#[]⟩⟩,
 ⟨25,.struct #[⟨"Ins", 3,0,false, "", "", 0⟩,⟨"Ops", 22,1,false, "", "", 8⟩,⟨"Outs", 23,2,false, "", "", 32⟩],⟨.named "flowpipe/api.Tape" 24, "api.Tape", 3,56,true,8,8,some (.agg #[.int .i64 0,.slice none 0 0,.slice none 0 0]),false,#[]⟩⟩,
 ⟨26,.slice 46,⟨.slice 46, "[]api.Interval", 1,24,true,8,8,some (.slice none 0 0),false,#[]⟩⟩,
 ⟨28,.struct #[⟨"Tape", 25,0,false, "", "", 0⟩,⟨"States", 3,3,false, "", "", 56⟩,⟨"Params", 26,4,false, "", "", 64⟩],⟨.named "flowpipe/api.System" 27, "api.System", 5,88,true,8,8,some (.agg #[.int .i64 0,.slice none 0 0,.slice none 0 0,.int .i64 0,.slice none 0 0]),false,#[]⟩⟩,
 ⟨31,.func #[26] #[4] false,⟨.func #[26] #[4] false, "func([]api.Interval) bool", 1,8,true,8,8,some (.nilFunc),false,#[]⟩⟩,
 ⟨34,.int .i8,⟨.int .i8, "int8", 1,1,false,1,1,some (.int .i8 0),true,#[]⟩⟩,
 ⟨37,.slice 150,⟨.slice 150, "[]uint32", 1,24,true,8,8,some (.slice none 0 0),false,#[]⟩⟩,
 ⟨39,.struct #[⟨"Neg", 4,0,false, "", "", 0⟩,⟨"M", 37,1,false, "", "", 8⟩,⟨"E", 3,2,false, "", "", 32⟩],⟨.named "flowpipe/api.Dyadic" 38, "api.Dyadic", 3,40,true,8,8,some (.agg #[.bool false,.slice none 0 0,.int .i64 0]),false,#[]⟩⟩,
 ⟨43,.func #[26,26] #[4] false,⟨.func #[26,26] #[4] false, "func([]api.Interval, []api.Interval) bool", 1,8,true,8,8,some (.nilFunc),false,#[]⟩⟩,
 ⟨46,.struct #[⟨"Lo", 39,0,false, "", "", 0⟩,⟨"Hi", 39,3,false, "", "", 40⟩,⟨"All", 4,6,false, "", "", 80⟩],⟨.named "flowpipe/api.Interval" 45, "api.Interval", 7,88,true,8,8,some (.agg #[.bool false,.slice none 0 0,.int .i64 0,.bool false,.slice none 0 0,.int .i64 0,.bool false]),false,#[]⟩⟩,
 ⟨48,.slice 26,⟨.slice 26, "[][]api.Interval", 1,24,true,8,8,some (.slice none 0 0),false,#[]⟩⟩,
 ⟨49,.int .i64,⟨.named "flowpipe/api.Errno" 3, "api.Errno", 1,8,false,8,8,some (.int .i64 0),true,#[]⟩⟩,
 ⟨59,.func #[46,46] #[4] false,⟨.func #[46,46] #[4] false, "func(api.Interval, api.Interval) bool", 1,8,true,8,8,some (.nilFunc),false,#[]⟩⟩,
 ⟨64,.func #[46] #[4] false,⟨.func #[46] #[4] false, "func(api.Interval) bool", 1,8,true,8,8,some (.nilFunc),false,#[]⟩⟩,
 ⟨72,.struct #[⟨"N", 3,0,false, "", "", 0⟩,⟨"D", 3,1,false, "", "", 8⟩],⟨.named "flowpipe/api.Ratio" 71, "api.Ratio", 2,16,false,8,8,some (.agg #[.int .i64 0,.int .i64 0]),true,#[]⟩⟩,
 ⟨74,.struct #[⟨"Kind", 3,0,false, "", "", 0⟩,⟨"A", 3,1,false, "", "", 8⟩,⟨"B", 3,2,false, "", "", 16⟩,⟨"N", 3,3,false, "", "", 24⟩,⟨"C", 72,4,false, "", "", 32⟩],⟨.named "flowpipe/api.Op" 73, "api.Op", 6,48,false,8,8,some (.agg #[.int .i64 0,.int .i64 0,.int .i64 0,.int .i64 0,.int .i64 0,.int .i64 0]),true,#[]⟩⟩,
 ⟨78,.slice 80,⟨.slice 80, "[]api.Expr", 1,24,true,8,8,some (.slice none 0 0),false,#[]⟩⟩,
 ⟨80,.struct #[⟨"Kind", 3,0,false, "", "", 0⟩,⟨"Num", 72,1,false, "", "", 8⟩,⟨"Name", 9,3,false, "", "", 24⟩,⟨"N", 3,4,false, "", "", 40⟩,⟨"L", 78,5,false, "", "", 48⟩],⟨.named "flowpipe/api.Expr" 79, "api.Expr", 6,72,true,8,8,some (.agg #[.int .i64 0,.int .i64 0,.int .i64 0,.string ⟨#[]⟩,.int .i64 0,.slice none 0 0]),false,#[]⟩⟩,
 ⟨85,.slice 9,⟨.slice 9, "[]string", 1,24,true,8,8,some (.slice none 0 0),false,#[]⟩⟩,
 ⟨96,.func #[46,46,3] #[46] false,⟨.func #[46,46,3] #[46] false, "func(api.Interval, api.Interval, int) api.Interval", 1,8,true,8,8,some (.nilFunc),false,#[]⟩⟩,
 ⟨104,.func #[3] #[4] false,⟨.func #[3] #[4] false, "func(int) bool", 1,8,true,8,8,some (.nilFunc),false,#[]⟩⟩,
 ⟨131,.func #[3] #[46] false,⟨.func #[3] #[46] false, "func(int) api.Interval", 1,8,true,8,8,some (.nilFunc),false,#[]⟩⟩,
 ⟨150,.int .u32,⟨.int .u32, "uint32", 1,4,false,4,4,some (.int .u32 0),true,#[]⟩⟩,
 ⟨151,.int .u64,⟨.int .u64, "uint64", 1,8,false,8,8,some (.int .u64 0),true,#[]⟩⟩,
 ⟨160,.func #[39,3] #[39,49] false,⟨.func #[39,3] #[39,49] false, "func(api.Dyadic, int) (api.Dyadic, api.Errno)", 1,8,true,8,8,some (.nilFunc),false,#[]⟩⟩,
 ⟨166,.int .u64,⟨.int .u64, "uint", 1,8,false,8,8,some (.int .u64 0),true,#[]⟩⟩,
 ⟨168,.slice 170,⟨.slice 170, "[][2]api.Dyadic", 1,24,true,8,8,some (.slice none 0 0),false,#[]⟩⟩,
 ⟨170,.array 2 39,⟨.array 2 39, "[2]api.Dyadic", 6,80,true,8,8,some (.agg #[.bool false,.slice none 0 0,.int .i64 0,.bool false,.slice none 0 0,.int .i64 0]),false,#[]⟩⟩,
 ⟨173,.func #[3,3,46] #[46] false,⟨.func #[3,3,46] #[46] false, "func(int, int, api.Interval) api.Interval", 1,8,true,8,8,some (.nilFunc),false,#[]⟩⟩,
 ⟨200,.func #[39,39,3] #[39,49] false,⟨.named "flowpipe/interval.rounded" 142, "interval.rounded", 1,8,true,8,8,some (.nilFunc),false,#[]⟩⟩,
 ⟨201,.array 4 170,⟨.array 4 170, "[4][2]api.Dyadic", 24,320,true,8,8,some (.agg #[.bool false,.slice none 0 0,.int .i64 0,.bool false,.slice none 0 0,.int .i64 0,.bool false,.slice none 0 0,.int .i64 0,.bool false,.slice none 0 0,.int .i64 0,.bool false,.slice none 0 0,.int .i64 0,.bool false,.slice none 0 0,.int .i64 0,.bool false,.slice none 0 0,.int .i64 0,.bool false,.slice none 0 0,.int .i64 0]),false,#[]⟩⟩,
 ⟨210,.struct #[⟨"m", 37,0,false, "", "flowpipe/round", 0⟩,⟨"e", 3,1,false, "", "flowpipe/round", 24⟩,⟨"more", 4,2,false, "", "flowpipe/round", 32⟩],⟨.named "flowpipe/round.exact" 209, "round.exact", 3,40,true,8,8,some (.agg #[.slice none 0 0,.int .i64 0,.bool false]),false,#[]⟩⟩,
 ⟨219,.struct #[⟨"o", 74,0,false, "", "flowpipe/gradient", 0⟩,⟨"v", 46,6,false, "", "flowpipe/gradient", 48⟩,⟨"a", 46,13,false, "", "flowpipe/gradient", 136⟩,⟨"b", 46,20,false, "", "flowpipe/gradient", 224⟩,⟨"da", 46,27,false, "", "flowpipe/gradient", 312⟩,⟨"db", 46,34,false, "", "flowpipe/gradient", 400⟩,⟨"p", 3,41,false, "", "flowpipe/gradient", 488⟩],⟨.named "flowpipe/gradient.node" 218, "gradient.node", 42,496,true,8,8,some (.agg #[.int .i64 0,.int .i64 0,.int .i64 0,.int .i64 0,.int .i64 0,.int .i64 0,.bool false,.slice none 0 0,.int .i64 0,.bool false,.slice none 0 0,.int .i64 0,.bool false,.bool false,.slice none 0 0,.int .i64 0,.bool false,.slice none 0 0,.int .i64 0,.bool false,.bool false,.slice none 0 0,.int .i64 0,.bool false,.slice none 0 0,.int .i64 0,.bool false,.bool false,.slice none 0 0,.int .i64 0,.bool false,.slice none 0 0,.int .i64 0,.bool false,.bool false,.slice none 0 0,.int .i64 0,.bool false,.slice none 0 0,.int .i64 0,.bool false,.int .i64 0]),false,#[]⟩⟩,
 ⟨227,.slice 37,⟨.slice 37, "[][]uint32", 1,24,true,8,8,some (.slice none 0 0),false,#[]⟩⟩,
 ⟨229,.func #[37] #[4] false,⟨.func #[37] #[4] false, "func([]uint32) bool", 1,8,true,8,8,some (.nilFunc),false,#[]⟩⟩,
 ⟨233,.slice 39,⟨.slice 39, "[]api.Dyadic", 1,24,true,8,8,some (.slice none 0 0),false,#[]⟩⟩,
 ⟨257,.struct #[⟨"p", 3,0,false, "", "flowpipe/exponent", 0⟩],⟨.named "flowpipe/exponent.work" 256, "exponent.work", 1,8,false,8,8,some (.agg #[.int .i64 0]),true,#[⟨"flowpipe/exponent.add", 198,#[],some (389,false)⟩,⟨"flowpipe/exponent.div", 198,#[],some (388,false)⟩,⟨"flowpipe/exponent.exp", 138,#[],some (401,false)⟩,⟨"flowpipe/exponent.halved", 224,#[],some (387,false)⟩,⟨"flowpipe/exponent.log", 138,#[],some (390,false)⟩,⟨"flowpipe/exponent.mul", 198,#[],some (391,false)⟩,⟨"flowpipe/exponent.small", 64,#[],some (403,false)⟩]⟩⟩,
 ⟨264,.struct #[⟨"neg", 4,0,false, "", "flowpipe/circle", 0⟩,⟨"m", 37,1,false, "", "flowpipe/circle", 8⟩],⟨.named "flowpipe/circle.fix" 263, "circle.fix", 2,32,true,8,8,some (.agg #[.bool false,.slice none 0 0]),false,#[⟨"flowpipe/circle.add", 275,#[],some (416,false)⟩,⟨"flowpipe/circle.by", 271,#[],some (419,false)⟩,⟨"flowpipe/circle.minus", 269,#[],some (407,false)⟩,⟨"flowpipe/circle.times", 272,#[],some (413,false)⟩,⟨"flowpipe/circle.zero", 29,#[],some (417,false)⟩]⟩⟩,
 ⟨275,.func #[264] #[264] false,⟨.func #[264] #[264] false, "func(circle.fix) circle.fix", 1,8,true,8,8,some (.nilFunc),false,#[]⟩⟩]
theorem KA:mJ prog TT:=GU.ok ⟨⟨underlying3,ah⟩,⟨underlying4,ah⟩,⟨underlying9,ah⟩,⟨underlying22,ah⟩,⟨underlying23,ah⟩,⟨underlying25,ah⟩,⟨underlying26,ah⟩,⟨underlying28,ah⟩,⟨underlying31,ah⟩,⟨underlying34,ah⟩,⟨underlying37,ah⟩,⟨underlying39,ah⟩,⟨underlying43,ah⟩,⟨underlying46,ah⟩,⟨underlying48,ah⟩,⟨underlying49,ah⟩,⟨underlying59,ah⟩,⟨underlying64,ah⟩,⟨underlying72,ah⟩,⟨underlying74,ah⟩,⟨underlying78,ah⟩,⟨underlying80,ah⟩,⟨underlying85,ah⟩,⟨underlying96,ah⟩,⟨underlying104,ah⟩,⟨underlying131,ah⟩,⟨underlying150,ah⟩,⟨underlying151,ah⟩,⟨underlying160,ah⟩,⟨underlying166,ah⟩,⟨underlying168,ah⟩,⟨underlying170,ah⟩,⟨underlying173,ah⟩,⟨underlying200,ah⟩,⟨underlying201,ah⟩,⟨underlying210,ah⟩,⟨underlying219,ah⟩,⟨underlying227,ah⟩,⟨underlying229,ah⟩,⟨underlying233,ah⟩,⟨underlying257,ah⟩,⟨underlying264,ah⟩,⟨underlying275,ah⟩,trivial⟩
end Go.Proofs.YtkjkcjhacddojaaGreatDoor
namespace Go.Proofs.YtkjkcjhacddojaaGreatDoor.Pu
open Go.RowKit
def E.ml:E->Nat->Nat->E
 | .sl _ _ _ el,i,j=>el i j
 |_,_,_=>.any
section
variable {P:Program} {K:World->Prop}
theorem Sp.pre{c:Code}{σ τ:PS}{Q:Ex->PS->Prop}(h:PS.le σ τ)(k:Sp P K c τ Q):Sp P K c σ Q:=λw0 B a w L g r=>
 let⟨L',r'⟩:=h w0 B a w L (λb hb=>(g.hB b hb).1) r;k w0 B a w L' g r'
theorem Sp.post{c:Code}{σ:PS}{Q Q':Ex->PS->Prop}(h:Sp P K c σ Q)(k:∀ e τ,Q e τ->∃ τ',PS.le τ τ'/\Q' e τ'):Sp P K c σ Q':=λw0 B a w L g r=>
 Code.wp_mono (λ_ _ _ ⟨ex,τ,L',h1,h2,h3⟩=>let⟨τ',q1,q2⟩:=k ex τ h2;let⟨L2,r2⟩:=q1 w0 B _ _ L' (λb hb=>(g.hB b hb).1) h3;⟨ex,τ',L2,h1,q2,r2⟩) (h w0 B a w L g r)
theorem Sp.fam{α:Type}(f:α->PS)(p:α->Prop)(m:α->Nat){b:Code}{e:Ex}{τ:PS}
 (step:∀ x,p x->Sp P K b (f x) (λe' υ=>(e' = .normal/\∃ y,p y/\m y<m x/\υ=f y)\/(e' ≠ .normal/\e'=e/\υ=τ))) {σ:PS} (x:α) (hx:p x) (h0:PS.le σ (f x)):
 Sp P K (.loop b) σ (λe' υ=>e'=e/\υ=τ):=by
 refine Sp.pre h0 ?_;refine Sp.loop (Q:=λe' υ=>e'=e/\υ=τ) (λn σ=>∃ x,p x/\m x=n/\σ=f x) (λn σ ⟨x,h1,h2,h3⟩=>?_) (m x) (f x) ⟨x,hx,rfl,rfl⟩;subst h3 h2;exact(step x h1).mono λe' υ h=>h.imp (λ⟨q1,y,q2,q3,q4⟩=>⟨q1,m y,q3,y,q2,rfl,q4⟩) id
theorem Sp.adX{α:Type}{f:α->PS}{p:α->Prop}{m:α->Nat}{b:Code}{e:Ex}{τ υ:PS}{x:α}(y:α)(h:Sp P K b (f x) (λe' υ'=>e' = .normal/\υ'=υ))(hy:p y)(hm:m y<m x)(hl:PS.le υ (f y)):
 Sp P K b (f x) (λe' υ=>(e' = .normal/\∃ y,p y/\m y<m x/\υ=f y)\/(e' ≠ .normal/\e'=e/\υ=τ)):=
 h.post λ_ _ ⟨h1,h2⟩=>⟨f y,h2▸hl,.inl ⟨h1,y,hy,hm,rfl⟩⟩
theorem Sp.adY{α:Type}{f:α->PS}{p:α->Prop}{m:α->Nat}{b:Code}{e:Ex}{τ υ:PS}{x:α}(h:Sp P K b (f x) (λe' υ'=>e'=e/\υ'=υ))(he:e ≠ .normal)(hl:PS.le υ τ):
 Sp P K b (f x) (λe' υ=>(e' = .normal/\∃ y,p y/\m y<m x/\υ=f y)\/(e' ≠ .normal/\e'=e/\υ=τ)):=
 h.post λ_ _ ⟨h1,h2⟩=>⟨τ,h2▸hl,.inr ⟨h1▸he,h1,rfl⟩⟩
end
def AL(k:Nat):Code->Option Code
 | .loop b=>if Nat.beq (EH b) k then some b else AL k b
 | .seq a b=>match AL k a with
  |some c=>some c
  |none=>AL k b
 | .cond _ a b=>match AL k a with
  |some c=>some c
  |none=>AL k b
 | .block _ b=>AL k b
 | .scope b=>AL k b
 |_=>none
def aa0(k:Nat)(fn:Func):Code:=((fn.body.bind (AL k)).getD .skip)
theorem Bx.le.iS{a b:Bx}(h:a=b):Bx.le a b:=h▸Bx.le.refl a
theorem Bx.le.cells{T:TypeId}{l m:List E}(hn:(l.all E.nx=true->m.all E.nx=true))(h:tZ l m):Bx.le (.cells T l) (.cells T m):=⟨hn,λ_ _ _ _ _ ⟨b,vs,h1,h2,h3,h4,h5⟩=>⟨b,vs,h1,h2,h3,h.JP h4,h5⟩⟩
theorem Bx.le.row{nl:Bool}{T:TypeId}{n n' sz:Nat}{el el':Nat->Nat->E}(hn:n=n')(h:∀ i j,i<n->j<sz->E.le (el i j) (el' i j)/\(el' i j).nr 2=true):Bx.le (.row nl T n sz el) (.row nl T n' sz el'):=
 ⟨id,λ_ _ _ _ _ ⟨f,h1,h2,h3⟩=>by subst hn;exact⟨f,h1,h2,λi j hi hj=>⟨(h i j hi hj).1 _ _ _ _ (h3 i j hi hj).1,(h i j hi hj).2⟩⟩⟩
theorem PS.le.agz{σ τ:PS}(hn:σ.n=τ.n)(ko:(τ.b.all λx=>x.2.nl)=true)(hr:Gj τ=true)(ht:xq σ τ.t)(hb:we σ τ.b):PS.le σ τ:=λw0 B a w L _ r=>by
 let L':Lk:=⟨λid=>L.oC id/\(τ.bo id).isSome=true,λid x=>L.own id x/\(τ.bo id).isSome=true,L.val,L.jz⟩
 have iE:s9 L w L' w:=⟨aV _,λx _ ⟨id,h,_⟩=>⟨id,h⟩,λ_ _ _=>rfl⟩
 refine⟨L',r.hd,by rw[<-hn];exact r.hs,λt=>?_,λid b h=>?_,λid=>?_,λid x h=>⟨r.hn id x h.1,h.2⟩,λid x h=>r.hw id x h.1,λid id' x h k=>r.hi id id' x h.1 k.1,r.he,λh id b k=>?_⟩
 .have hg:τ.get t=((look τ.t t)).getD (.e .any):=rfl
  cases hl:look τ.t t with
  |none=>rw[hg,hl];exact .any _
  |some p=>
   rw[hg,hl];have:=ht.get hl _ _ _ _ _ (r.ht t);refine nT.move iE this λid hid vz=>⟨⟨vz,?_⟩,rfl,λ_=>rfl⟩
   have q:=bH.1 hr _ (Nv hl);exact bH.1 q id hid
 .obtain ⟨b',h1,h2⟩:=hb.get h
  have hs:(τ.bo id).isSome=true:=by rw[h];rfl
  exact(h2.2 _ _ _ _ _ (r.hb id b' h1)).later iE rfl (λx=>⟨λq=>q.1,λq=>⟨q,hs⟩⟩) (λ_=>rfl) λ_ _=>rfl
 .show L.oC id/\(τ.bo id).isSome=true↔(τ.bo id).isSome=true
  refine⟨λh=>h.2,λh=>⟨(r.hv id).2 ?_,h⟩⟩;obtain⟨b,ki⟩:=gi.1 h;obtain⟨b',h1,_⟩:=hb.get ki;rw[h1];rfl
 .exact bH.1 ko _ (Nv k)
def PV.xB(id:Nat)(e:E)(p:PV):PV:=match p with
 | .own i=>if Nat.beq i id then .e e else .own i
 |p=>if p.qQ.any (Nat.beq id)then .e .any else p
def PS.xB(σ:PS)(id:Nat)(e:E):PS:={ σ with t:=σ.t.map λx=>(x.1,x.2.xB id e),b:=σ.b.filter λx=>!Nat.beq x.1 id }
def Bx.as:Bx->Option E
 | .row nl _ n sz el=>some (.sl nl n sz el)
 | .qm nl _ _ n sz len el none=>some (.sl true n 1 λk _=>.sl nl (len k) sz (el k))
 |_=>none
theorem PS.le.freeze{σ:PS}(id:Nat){b:Bx}{e:E}(ki:σ.bo id=some b)(he:b.as=some e):PS.le σ (σ.xB id e):=λw0 B a w L hB r=>by
 let L':Lk:=⟨λi=>L.oC i/\i≠id,λi x=>L.own i x/\i≠id,L.val,L.jz⟩
 have iE:s9 L w L' w:=⟨aV _,λx _ ⟨i,h,_⟩=>⟨i,h⟩,λ_ _ _=>rfl⟩
 have wL:∀ i,(σ.xB id e).bo i=if i=id then none else σ.bo i:=by
  intro i;unfold PS.bo PS.xB;by_cases h:i=id
  .subst h;simp only[bn];exact Vc _ _
  .rw [aR h];exact FD _ _ _ (λe=>h e.symm)
 have xH:∀ x,L.own id x->¬jE B L' x:=by
  rintro x hx (h|⟨i,h1,h2⟩)
  .have:=hB x h;have:=(r.hw id x hx).1;omega
  .exact h2 (r.hi i id x h1 hx)
 have own:∀ (v:Value) (T:TypeId) (n sz:Nat) (f:Nat->Nat->Value) (nl:Bool) (el:Nat->Nat->E),qH w v T n sz f nl->(∀ x,v.ownBlock=some x->L.own id x) ->
  (∀ i j,i<n->j<sz->iH (jE B L) (kr L) w (el i j) (f i j)/\(el i j).nr 2=true)->iH (jE B L') (kr L') w (.sl nl n sz el) v:=by
  intro v T n sz f nl el h1 h2 h3;rcases h1 with⟨rfl,rfl⟩|⟨b,c,cur,rfl,hg,pB,nN,nO,lq,ko⟩
  .exact .sl nl 0 sz el none 0 f (aV _) ag (λ_=>rfl) (λi j hi=>absurd hi (bk i)) (λi j hi=>absurd hi (bk i)) (λi j hi=>absurd hi (bk i)) (λi j hi=>absurd hi (bk i))
  .have rC:=h2 b rfl
   refine .sl nl n sz el _ c f pB (by unfold maxLen at nN;omega) (λh=>by cases h) (λi j hi hj=>⟨(lq i j hi hj).2,λhn=>ko hn _ (dh (lq i j hi hj).1)⟩) (λi j hi hj=>(h3 i j hi hj).2)
    (λi j hi hj=>⟨b,0,rfl,xH b rC,(r.hw id b rC).2,?_⟩) (λi j hi hj=>iE.lr (h3 i j hi hj).1)
   rw[bX];simp only[World.cell?,hg];simpa using(lq i j hi hj).1
 have hold:∀ v,v=L.val id->iH (jE B L') (kr L') w e v:=by
  rintro v rfl;have uh:=r.hb id b ki;cases b with
  |cells T l=>cases he
  |row nl T n sz el=>
   cases he;obtain⟨f,h1,h2,h3⟩:=uh;exact own _ T n sz f nl el h1 (λx hx=>(h2 x).2 hx) h3
  |qm nl T1 T0 n sz len el pend=>
   cases pend with
   |some k=>cases he
   |none=>
    cases he;obtain⟨b,c,cur,f,h1,h2,h3,h4,h5,h6,h7,h8,h9,wH,xC⟩:=uh;have rC:L.own id b:=(h9 b).2 (.inl rfl);rw[h1];refine .sl true n 1 _ _ c (λk _=>L.jz id k) h3 (by unfold maxLen at h4;omega) (λh=>by cases h) (λk j hk hj=>?_) (λk j hk hj=>rfl)
     (λk j hk hj=>⟨b,0,rfl,xH b rC,(r.hw id b rC).2,?_⟩) (λk j hk hj=>own _ T0 (len k) sz (f k) nl (el k) (h8 k hk).1 (λx hx=>(h9 x).2 (.inr ⟨k,hk,hx⟩)) (h8 k hk).2)
    .obtain ⟨q1,q2⟩:=h7 _ (dh (h6 k hk aj))
     exact⟨q1,λ_=>q2⟩
    .rw [bX,bQ]
     obtain rfl:j=0:= ae ;simp only[World.cell?,h2];simpa using h6 k hk aj 
 refine⟨L',r.hd,r.hs,λt=>?_,λi b' h=>?_,λi=>?_,λi x h=>⟨r.hn i x h.1,h.2⟩,λi x h=>r.hw i x h.1,λi i' x h k=>r.hi i i' x h.1 k.1,r.he,λh i b' k=>?_⟩
 .have hg:(σ.xB id e).get t=(σ.get t).xB id e:=by
   unfold PS.get PS.xB;rw[Vd];cases look σ.t t<;>rfl
  rw[hg];have k:=r.ht t;generalize σ.get t=p at k;have move:∀ (p:PV) (v:Value),nT (jE B L) (kr L) L w p v->(p.qQ.any (Nat.beq id))=false->nT (jE B L') (kr L') L' w p v:=by
   intro p v k hp;refine nT.move iE k λi hi vz=>⟨⟨vz,?_⟩,rfl,λ_=>rfl⟩
   rintro rfl;have:=dM.1 hp i hi;simp at this
  have gen:∀ (p:PV) (v:Value),nT (jE B L) (kr L) L w p v->nT (jE B L') (kr L') L' w (if p.qQ.any (Nat.beq id)then .e .any else p) v:=by
   intro p v k;cases hp:p.qQ.any (Nat.beq id)with
   |true=>exact .any _
   |false=>exact move p v k hp
  cases p with
  |own i=>
   simp only[PV.xB];by_cases hi:i=id
   .subst hi
    rw[dw,aS rfl];exact hold _ k.2
   .rw [dx hi,aR ag]
    exact⟨⟨k.1,hi⟩,k.2⟩
  |_=>exact gen _ _ k
 .rw [wL]at h
  split at h
  .cases h
  .rename_i hi
   exact(r.hb i b' h).later iE rfl (λx=>⟨λq=>q.1,λq=>⟨q,hi⟩⟩) (λ_=>rfl) λ_ _=>rfl
 .rw [wL]
  show L.oC i/\i≠id↔_;by_cases hi:i=id
  .subst hi;simp
  .simp only[hi,cW,ev,and_true,a7]
   exact r.hv i
 .rw [wL]at k
  split at k
  .cases k
  .exact r.hl h i b' k
def PS.Cz(σ:PS)(t id:Nat)(b:Bx):PS:={ σ with t:=(t,.own id)::σ.t.filter (λx=>!Nat.beq x.1 t),b:=(id,b)::σ.b }
theorem PS.le.ZL{σ:PS}(t id:Nat){nl:Bool}{T:TypeId}{sz:Nat}{el:Nat->Nat->E}(ki:σ.bo id=none)(hg:σ.get t = .e (.v (.slice none 0 0)))(ko:σ.nl=true->nl=true):PS.le σ (σ.Cz t id (.row nl T 0 sz el)):=λw0 B a w L hB r=>by
 have vy:¬L.oC id:=λh=>by have:=(r.hv id).1 h;rw[ki]at this;cases this
 let L':Lk:=⟨λi=>L.oC i\/i=id,L.own,λi=>if i=id then .slice none 0 0 else L.val i,L.jz⟩
 have iE:s9 L w L' w:=⟨aV _,λx _ h=>h,λ_ _ _=>rfl⟩
 have wL:∀ i,(σ.Cz t id (.row nl T 0 sz el)).bo i=if i=id then some (.row nl T 0 sz el)else σ.bo i:=by
  intro i;unfold PS.bo PS.Cz;rw[tR];by_cases h:id=i
  .rw [aS h,aS h.symm]
  .rw [aR h,aR (λe=>h e.symm)]
 have hv:a.tmps.getD t undef = .slice none 0 0:=by
  have:=r.ht t;rw[hg]at this;exact iH.kP this
 refine⟨L',r.hd,r.hs,λs=>?_,λi b' h=>?_,λi=>?_,λi x h=>.inl (r.hn i x h),r.hw,r.hi,r.he,λh i b' k=>?_⟩
 .have hgs:(σ.Cz t id (.row nl T 0 sz el)).get s=if t=s then .own id else σ.get s:=by
   unfold PS.get PS.Cz;simp only[tR];by_cases h:t=s
   .rw [aS h,aS h];rfl
   .rw [aR h,aR h,FD _ _ _ h]
  rw[hgs];by_cases h:t=s
  .subst h
   rw[aS rfl,hv];exact⟨.inr rfl,(aS rfl).symm⟩
  .rw [aR h]
   refine nT.move iE (r.ht s) λi _ vz=>⟨.inl vz,aR (λ(q:i=id)=>vy (q▸vz)),λ_=>rfl⟩
 .rw [wL]at h
  split at h
  .rename_i hi
   subst hi;cases h;refine⟨λ_ _=>undef,.inl ⟨aS rfl,rfl⟩,λx=>⟨λq=>absurd (r.hn _ _ q) vy,λq=>?_⟩,λi j hi=>absurd hi (bk i)⟩;have e1:L'.val i = .slice none 0 0:=aS rfl;rw[e1]at q;cases q
  .rename_i hi
   exact(r.hb i b' h).later iE (aR hi) (λ_=>Iff.rfl) (λ_=>rfl) λ_ _=>rfl
 .rw [wL]
  show L.oC i\/i=id↔_;by_cases hi:i=id
  .subst hi;simp
  .simp only[hi,or_false,a7]
   exact r.hv i
 .rw [wL]at k
  split at k
  .cases k;exact ko h
  .exact r.hl h i b' k
end Go.Proofs.YtkjkcjhacddojaaGreatDoor.Pu
namespace Go.Proofs.YtkjkcjhacddojaaGreatDoor.Fp
def nc(x i:Nat)(b o:List Nat):Nat->List Nat×Nat
 | 0=>(o,0)
 |k+1=>
  let r:=nc x i b o k
  let z:=x*b.getD k 0+r.1.getD (i+k) 0+r.2
  (r.1.set (i+k) (z%4294967296),z/4294967296)
def lI(a b:List Nat):Nat->List Nat
 | 0=>List.replicate (a.length+b.length) 0
 |i+1=>
  let r:=nc (a.getD i 0) i b (lI a b i) b.length
  r.1.set (i+b.length) (r.2%4294967296)
theorem VC{x y:Nat}(hx:x<4294967296)(hy:y<4294967296):x*y<=18446744065119617025:=by
 have:=cL (show x<=4294967295 by omega) (show y<=4294967295 by omega);omega
theorem yi{L:List Nat}{k x:Nat}(hk:k<L.length):val (L.set k x)+4294967296^k*L.getD k 0=val L+4294967296^k*x:=by
 have:=Pj (x:=x) hk;rwa[aW,bg hk]
theorem vk{L:List Nat}{k j x:Nat}(h:k≠j):(L.set k x).getD j 0=L.getD j 0:=by
 simp only[aW,gv h]
theorem LR{L:List Nat}{k x:Nat}(h:k<L.length):(L.set k x).getD k 0=x:=by
 simp[aW,h]
structure ZA(x i:Nat)(b o:List Nat)(k:Nat)(r:List Nat×Nat):Prop where
 ok:iD r.1
 len:r.1.length=o.length
 lt:r.2<4294967296
 eq:val r.1+4294967296^(i+k)*r.2=val o+4294967296^i*(x*val (b.take k))
 qn:∀ j,i+k<=j->r.1.getD j 0=o.getD j 0
theorem FK{x i:Nat}{b o:List Nat}(hx:x<4294967296)(hb:iD b)(ho:iD o)(hl:i+b.length<=o.length):∀ k,k<=b.length->ZA x i b o k (nc x i b o k)
 | 0,_=>⟨ho,rfl,anW _,by simp[nc,val],λ_ _=>rfl⟩
 |k+1,hk=>by
  obtain⟨h1,h2,h3,h4,h5⟩:=FK hx hb ho hl k ae;have hy:=hb.getD k;have hw:=h1.getD (i+k);have hm:=VC hx hy;have hv:=uW b k;simp only[nc];generalize nc x i b o k=r at *
  generalize hz:x*b.getD k 0+r.1.getD (i+k) 0+r.2=z;have uA:=yi (L:=r.1) (k:=i+k) (x:=z%4294967296) ae;refine⟨h1.set _ (bh _ ag),by simpa using h2,by show z/4294967296<_;omega,?_,λj hj=>?_⟩
  .have e1:z=z%4294967296+4294967296*(z/4294967296):=(dt z _).symm
   show val (r.1.set (i+k) (z%4294967296))+4294967296^(i+(k+1))*(z/4294967296)=_;rw[hv,bt x,bt (4294967296^i),<-cF (val o),<-h4];have e2:4294967296^(i+(k+1))*(z/4294967296)=4294967296^(i+k)*(4294967296*(z/4294967296)):=by rw[show i+(k+1)=(i+k)+1 by omega,a6,bd]
   have e3:4294967296^i*(x*(4294967296^k*b.getD k 0))=4294967296^(i+k)*(x*b.getD k 0):=by rw[aX];simp only[bd,cE]
   rw[e2,e3];have e4:4294967296^(i+k)*z=4294967296^(i+k)*(x*b.getD k 0)+4294967296^(i+k)*r.1.getD (i+k) 0+4294967296^(i+k)*r.2:=by rw[<-hz,bt,bt]
   have e5:4294967296^(i+k)*z=4294967296^(i+k)*(z%4294967296)+4294967296^(i+k)*(4294967296*(z/4294967296)):=by rw[<-bt,<-e1]
   omega
  .show (r.1.set (i+k) _).getD j 0=_
   rw[vk ae,h5 j ae]
structure ZB(a b:List Nat)(i:Nat)(o:List Nat):Prop where
 ok:iD o
 len:o.length=a.length+b.length
 eq:val o=val (a.take i)*val b
 zero:∀ j,i+b.length<=j->o.getD j 0=0
theorem FL{a b:List Nat}(ha:iD a)(hb:iD b):∀ i,i<=a.length->ZB a b i (lI a b i)
 | 0,_=>⟨iD.Cd _,by simp[lI],by simp[lI,zU,val],λj _=>by
  by_cases h:j<a.length+b.length<;>simp[lI,aW,fJ,h]⟩
 |i+1,hi=>by
  obtain⟨h1,h2,h3,h4⟩:=FL ha hb i ae;obtain⟨q1,q2,q3,q4,q5⟩:=FK (ha.getD i) hb h1 (i:=i) ae b.length (aV _);have hv:=uW a i;simp only[lI];generalize nc (a.getD i 0) i b (lI a b i) b.length=r at *
  have uA:=yi (L:=r.1) (k:=i+b.length) (x:=r.2%4294967296) ae;rw[q5 _ (aV _),h4 _ (aV _),cv,bB,bC q3,q4,fh,h3]at uA;refine⟨q1.set _ (bh _ ag),av,?_,λj hj=>?_⟩
  .rw [bC q3,uA,hv,bL,bd]
  .rw [vk ae,q5 _ ae,h4 _ ae]
theorem amS{a b:List Nat}(ha:iD a)(hb:iD b):val (lI a b a.length)=val a*val b:=by
 have:=(FL ha hb a.length (aV _)).eq;rwa[fh]at this
end Go.Proofs.YtkjkcjhacddojaaGreatDoor.Fp
namespace Go.Proofs.YtkjkcjhacddojaaGreatDoor
open Go.RowKit Fp Pu
abbrev jd(L:List Nat):Nat->Nat->E:=λi _=>.v (.int .u32 (L.getD i 0:Int))
theorem uS(n:Nat):IntKind.u32.wrap (n:Int)=((n%4294967296:Nat):Int):=by rw[IntKind.wrap_u32];omega
theorem MY(n:Nat)(h:n<9223372036854775808):IntKind.i64.wrap (n:Int)=n:=by rw[IntKind.wrap_i64];omega
theorem Cj(n:Nat):(n:Int)/2^32=((n/4294967296:Nat):Int):= ae 
theorem zK(n k:Nat):(n:Int)/2^k=((n/2^k:Nat):Int):=by rw[Int.natCast_ediv,Int.natCast_pow];rfl
theorem zL{L:List Nat}{n:Nat}(h:n=L.length):E.le (.sl false n 1 (jd L)) (gY L):=by subst h;exact .refl _
theorem Gn{T n n':Nat}{L:List Nat}(hn:n=n')(h:∀ i,L.getD i 0=0):Bx.le (.row false T n 1 λ_ j=>[.v (.int .u32 0)].getD j .any) (.row false T n' 1 (jd L)):=
 .row hn λi j _ hj=>by
  obtain rfl:j=0:= ae ;refine⟨.iS ?_,rfl⟩;show E.v (.int .u32 0)=E.v (.int .u32 (L.getD i 0:Int));rw[h i];rfl
theorem OG{T n n' p:Nat}{L:List Nat}{z:Nat}(hn:n=n')(hp:p<L.length):Bx.le (.row false T n 1 λi' j'=>if i'=p/\0<=j'/\j'<0+1 then[.v (.int .u32 (z:Int))].getD (j'-0) .any else(jd L) i' j') (.row false T n' 1 (jd (L.set p z))):=
 .row hn λi j _ hj=>by
  obtain rfl:j=0:= ae ;refine⟨.iS ?_,rfl⟩;by_cases h:i=p
  .subst h
   rw[aS ⟨rfl,ae,ae⟩];show E.v (.int .u32 (z:Int))=E.v (.int .u32 (((L.set i z).getD i 0:Nat):Int));rw[Fp.LR hp]
  .rw [aR (λq=>h q.1)]
   show E.v (.int .u32 (L.getD i 0:Int))=E.v (.int .u32 (((L.set p z).getD i 0:Nat):Int));rw[Fp.vk (λq=>h q.symm)]
theorem Xy{k l:IntKind}{a b c d:Int}(h:a=b)(h':c=d):Ending.returned (.tuple #[.int k a,.int l c]) = .returned (.tuple #[.int k b,.int l d]):=by rw[h,h']
theorem Eh(x y c:Nat)(w:World)(hx:x<4294967296)(hy:y<4294967296)(hc:c<=1):
 Calls prog 379 #[.int .u32 x,.int .u32 y,.int .u32 c] w λe w'=>e = .returned (.tuple #[.int .u32 (((x+y+c)%4294967296:Nat):Int),.int .u32 (((x+y+c)/4294967296:Nat):Int)])/\w=w':=by
 go_enter func379,ntmps379;go_wp2;go_ret2;refine⟨?_,rfl⟩;exact Xy ae ae 
theorem Gz(a b:Nat)(ha:a<4294967296)(hb:b<4294967296):bits .or .u32 (a:Int) (b:Int)=((a |||b:Nat):Int):=by
 have h2:a |||b<2^32:=anS ha hb
 show IntKind.u32.wrap ((BitVec.ofInt 32 (a:Int) |||BitVec.ofInt 32 (b:Int)).toNat:Int)=_;rw[BitVec.toNat_or,fi,fi];rw[show((a:Int)%((2^32:Nat):Int)).toNat=a by omega,show((b:Int)%((2^32:Nat):Int)).toNat=b by omega];rw[IntKind.wrap_u32];omega
theorem Y1(a b:Nat)(ha:a<4294967296)(hb:b<4294967296):bits .and .u32 (a:Int) (b:Int)=((a &&& b:Nat):Int):=by
 have h2:a &&& b<2^32:=ff a hb;show IntKind.u32.wrap ((BitVec.ofInt 32 (a:Int) &&& BitVec.ofInt 32 (b:Int)).toNat:Int)=_;rw[BitVec.toNat_and,fi,fi];rw[show((a:Int)%((2^32:Nat):Int)).toNat=a by omega,show((b:Int)%((2^32:Nat):Int)).toNat=b by omega];rw[IntKind.wrap_u32];omega
theorem Pf(a b:Nat)(ha:a<4294967296)(hb:b<4294967296):bits .xor .u32 (a:Int) (b:Int)=((a ^^^ b:Nat):Int):=by
 have h2:a ^^^ b<2^32:=eA ha hb;show IntKind.u32.wrap ((BitVec.ofInt 32 (a:Int) ^^^ BitVec.ofInt 32 (b:Int)).toNat:Int)=_;rw[BitVec.toNat_xor,fi,fi];rw[show((a:Int)%((2^32:Nat):Int)).toNat=a by omega,show((b:Int)%((2^32:Nat):Int)).toNat=b by omega];rw[IntKind.wrap_u32];omega
theorem Kf(n:Nat)(h:n<4294967296):n/2147483648=(n.testBit 31).toNat:=by
 rw[Nat.testBit_eq_decide_div_mod_eq,show(2:Nat)^31=2147483648 from rfl];have h2:n/2147483648<2:= ae ;generalize n/2147483648=q at *
 have:q=0\/q=1:= ae ;rcases this with rfl|rfl<;>rfl
theorem aly(x y c d:Nat)(hx:x<4294967296)(hy:y<4294967296)(hc:c<=1)(hd:d=(x+(4294967296-y)+(4294967296-c))%4294967296):
 (((4294967295 ^^^ x) &&& y) ||| ((4294967295 ^^^ (x ^^^ y)) &&& d))/2147483648=if x<y+c then 1 else 0:=by
 have wN:d<4294967296:= ae ;have h1:4294967295 ^^^ x<2^32:=eA ag hx;have h2:x ^^^ y<2^32:=eA hx hy;have h3:4294967295 ^^^ (x ^^^ y)<2^32:=eA ag h2;have h4:(4294967295 ^^^ x) &&& y<2^32:=ff _ hy;have h5:(4294967295 ^^^ (x ^^^ y)) &&& d<2^32:=ff _ wN;rw[Kf _ (anS h4 h5)];have tx:=Kf x hx;have ty:=Kf y hy;have td:=Kf d wN;rw[Nat.testBit_or,Nat.testBit_and,Nat.testBit_and,anX,anX,anX,show(4294967295:Nat).testBit 31=true by decide];clear h1 h2 h3 h4 h5;generalize x.testBit 31=p at *
 generalize y.testBit 31=q at *
 generalize d.testBit 31=r at *
 cases p<;>cases q<;>cases r<;>simp at tx ty td ⊢ <;> omega
def Bi(x y c:Nat):Nat:=if x<y+c then 1 else 0
def xw(x y c:Nat):Nat:=(x+(4294967296-y)+(4294967296-c))%4294967296
theorem Ev(x y c:Nat)(hx:x<4294967296)(hy:y<4294967296)(hc:c<=1):xw x y c+y+c=x+4294967296*Bi x y c/\Bi x y c<=1/\xw x y c<4294967296:=by
 unfold xw Bi;split<;>omega
theorem Yl(x y c:Nat)(w:World)(hx:x<4294967296)(hy:y<4294967296)(hc:c<=1):
 Calls prog 380 #[.int .u32 x,.int .u32 y,.int .u32 c] w λe w'=>e = .returned (.tuple #[.int .u32 (xw x y c:Nat),.int .u32 (Bi x y c:Nat)])/\w=w':=by
 go_enter func380,ntmps380;go_wp2;go_ret2;refine⟨?_,rfl⟩;have hd:((x:Int)-y-c)%4294967296=(xw x y c:Int):=by unfold xw;omega
 have hb:=aly x y c (xw x y c) hx hy hc rfl;have hl:=(Ev x y c hx hy hc).2.2;have em:IntKind.u32.max=((4294967295:Nat):Int):=rfl;refine Xy hd ?_;rw[hd,em,Pf _ _ ag hx,Pf _ _ hx hy];have h1:4294967295 ^^^ x<2^32:=eA ag hx;have h2:x ^^^ y<2^32:=eA hx hy;have h3:4294967295 ^^^ (x ^^^ y)<2^32:=eA ag h2;rw[Pf _ _ ag h2,Y1 _ _ h1 hy,Y1 _ _ h3 hl];have h4:(4294967295 ^^^ x) &&& y<2^32:=ff _ hy;have h5:(4294967295 ^^^ (x ^^^ y)) &&& xw x y c<2^32:=ff _ hl;rw[Gz _ _ h4 h5];unfold Bi;rw[<-hb];omega
theorem PR{O:List Nat}{k c x y P Q P' Q':Nat}(ho:O[k]? = some 0)(h:val O+4294967296^k*c=P+Q)
 (hP:P'=P+4294967296^k*x) (hQ:Q'=Q+4294967296^k*y):
 val (O.set k ((x+y+c)%4294967296))+4294967296^(k+1)*((x+y+c)/4294967296)=P'+Q':=by
 have h1:=Nz (a:=1) (b:=x+y) (c:=c) ho;rw[bK,bB]at h1;rw[h1,h,hP,hQ,bt];omega
theorem Yo{O:List Nat}{k c x y d c' P Q P' Q':Nat}(ho:O[k]? = some 0)(h:val O+Q=P+4294967296^k*c)
 (hP:P'=P+4294967296^k*x) (hQ:Q'=Q+4294967296^k*y) (hd:d+y+c=x+4294967296*c'):
 val (O.set k d)+Q'=P'+4294967296^(k+1)*c':=by
 obtain⟨hk,h0⟩:=bZ.1 ho;have h1:=Pj (x:=d) hk;rw[h0,cv,bB]at h1;have e:=congrArg (4294967296^k * ·) hd;simp only[bt,<-bd]at e;rw[a6,h1,hP,hQ];omega
def ub(O:List Nat)(k:Nat):Prop:=∀ j,k<=j->j<O.length->O[j]? = some 0
theorem ub.at{O:List Nat}{k:Nat}(h:ub O k)(hk:k<O.length):O[k]? = some 0:=h k (aV _) hk
theorem ub.set{O:List Nat}{k:Nat}(h:ub O k)(v:Nat):ub (O.set k v) (k+1):=λj h1 h2=>by
 rw[gv ae];exact h j ae (by simpa using h2)
theorem ub.Pp(n:Nat):ub (List.replicate n 0) 0:=λj _ h=>by
 rw[fJ];rw[aS (by simpa using h)]
def Kx(w:World)(v n:Nat)(e:Ending)(w':World):Prop:=∃ T,val T=v/\iD T/\T.length=n/\tg w T e w'
def PB(w:World)(v n:Nat)(e:Ending)(w':World):Prop:=∃ T,val T=v/\iD T/\T.length<=n/\tg w T e w'
theorem ahy(A B:Option Addr)(c d:Nat)(L M:List Nat)(w:World)(hs:Sl w A c L)(hr:Sl w B d M)(h1:L.length<=3000)(_h2:M.length<=3000)(hc:M.length<=L.length):
 Calls prog 360 #[.slice A L.length c,.slice B M.length d] w (Kx w (val L+val M) (L.length+1)):=by
 obtain⟨l,hl⟩:∃ l,l=L.length:=⟨_,rfl⟩
 obtain⟨m,hm⟩:∃ m,m=M.length:=⟨_,rfl⟩
 rw[<-hl,<-hm]at hc;rw[<-hl]at h1;rw[<-hm]at _h2;have HL:=aol hl;have HM:=aol hm;rw[<-hl,<-hm];clear hl hm;have d0:decide ((l:Int)<m)=false:=aU ae;have d1:decide (l<m)=false:=aU ae;have pf:=DB (l+1) ae;rw[show((l+1:Nat):Int)=l+1 by omega]at pf;have vu:=aol (Rw.xS w (l+1));go_enter func360,ntmps360;go_wp2;go_loopw [6,7,8,9,23] (λcy _ _ _ i wr=>∃ (k q:Nat) (O:List Nat),k<=l/\i = .int .i64 k/\cy = .int .u32 q/\q<=1/\O.length=l+1/\iD O/\ub O k/\val O+4294967296^k*q=val (L.take k)+val (M.take k)/\Rw wr w.heap.size O/\iz w wr) (λ_ _ _ _ i _=>l-(intOf i).toNat)
 case atStart=>
  exact⟨0,0,List.replicate (l+1) 0,bN _,rfl,rfl,ag,aj,iD.Cd _,ub.Pp _,by simp[zU],vu.out,iz.alloc _ _⟩
 case round=>
  obtain⟨k,q,O,hk,rfl,rfl,hq,hO,k0,hz,kW,hR,hb⟩:=hrel;have HV:=aol kW;have HO:=aol hO;clear kW hO;have HZ:=aol hz;clear hz;by_cases iE:k<l
  .have tE:k<L.length:=by have:=HL.out;omega
   obtain⟨ab,ao,e1,_,c1⟩:=(hs.below hb).lp tE;have mG:L[k]<4294967296:=hs.ok.get tE;have ho:=HZ.out.at (by have:=HO.out;omega)
   have c4:=hR.frozen k;have ID:=hR.cell ho;have HT:=aol (yj L k tE);have HY:=aol (uW M k);have pC:M.getD k 0<4294967296:=hr.ok.getD k;have HYc:=aol (λ(h:k<M.length)=>(hr.below hb).lp h);have HYg:=aol (λ(h:k<M.length)=>An h);have HYn:=aol (λ(h:¬k<M.length)=>C0 h);have HX:=aol (rfl:L[k]=L[k]);obtain⟨a,ha⟩:∃ a,a=L[k]:=⟨_,rfl⟩
   rw[<-ha]at c1 mG HT;clear ha HX tE;have HS:=aol (PR ho HV.out HT.out HY.out);have HN:=aol (λv=>HZ.out.set v);have HOK:=aol (λv=>k0.JY k v);have HR2:=aol (λv:Nat=>hR.set k v);have HE2:=aol (λv:Value=>hb.setCell (p:=⟨w.heap.size,k,none⟩) (aV _) v);clear ho hR hb k0;subst e1;by_cases Uk:k<m
   .have wR:k<M.length:=by have:=HM.out;omega
    obtain⟨bb,bo,e2,_,c2⟩:=HYc.out wR;subst e2;rw[<-HYg.out wR]at c2;generalize M.getD k 0=b at *
    clear HYc HYg HYn wR;have HA:=aol (λw=>Eh a b q w mG pC hq);go_wp2_with fail;refine(HA.out _).mono ?_;rintro e w1 ⟨rfl,rfl⟩;go_wp2;go_roundw
    case rel=>
     exact⟨k+1,(a+b+q)/4294967296,O.set k ((a+b+q)%4294967296),ae,by go_num,rfl,ae,by rw[cw];exact HO.out,HOK.out _,HN.out _,HS.out,HR2.out _,HE2.out _⟩
    case measure=>simp[intOf];omega
   .rw [HYn.out (by have:=HM.out;omega)]at HS
    clear HYc HYg HYn pC HY;have HA:=aol (λw=>Eh a 0 q w mG ag hq);go_wp2_with fail;refine(HA.out _).mono ?_;rintro e w1 ⟨rfl,rfl⟩;go_wp2;go_roundw
    case rel=>
     exact⟨k+1,(a+0+q)/4294967296,O.set k ((a+0+q)%4294967296),ae,by go_num,rfl,ae,by rw[cw];exact HO.out,HOK.out _,HN.out _,HS.out,HR2.out _,HE2.out _⟩
    case measure=>simp[intOf];omega
  .obtain rfl:k=l:= ae 
   have ho:=HZ.out.at (by have:=HO.out;omega)
   have c4:=hR.frozen k;have ID:=hR.cell ho;have HF:=aol (show val (O.set k q)=val L+val M by
    have h:=K3 (c:=q) ho;rw[bX,bC ae,bW ae,cv,bB,HV.out,show L.take k=L from ct (by rw[HL.out];exact aV _),show M.take k=M from ct (by rw[<-HM.out];omega)]at h;omega)
   have HLn:=aol (show(O.set k q).length=k+1 by rw[cw];exact HO.out);have HOK:Hid (iD (O.set k q)):=k0.set k ae;have HR2:=aol (hR.set k q);have HE2:=aol (λv:Value=>hb.setCell (p:=⟨w.heap.size,k,none⟩) (aV _) v);clear ho hR hb k0;go_wp2;go_ret;have tJ:=HR2.out.sl HOK.out (by rw[HLn.out];omega);rw[HLn.out]at tJ;exact⟨_,HF.out,HOK.out,HLn.out,_,_,(by rw[HLn.out];rfl),tJ,HE2.out _⟩
theorem ahz(A B:Option Addr)(c d:Nat)(L M:List Nat)(w:World)(hs:Sl w A c L)(hr:Sl w B d M)(h1:L.length<=3000)(h2:M.length<=3000)(hc:L.length<M.length):
 Calls prog 360 #[.slice A L.length c,.slice B M.length d] w (Kx w (val L+val M) (M.length+1)):=by
 obtain⟨l,hl⟩:∃ l,l=L.length:=⟨_,rfl⟩
 obtain⟨m,hm⟩:∃ m,m=M.length:=⟨_,rfl⟩
 rw[<-hl,<-hm]at hc;rw[<-hl]at h1;rw[<-hm]at h2;have HL:=aol hl;have HM:=aol hm;rw[<-hl,<-hm];clear hl hm;have d0:decide ((l:Int)<m)=true:=aT ae;have d1:decide (l<m)=true:=aT ae;have pf:=DB (m+1) ae;rw[show((m+1:Nat):Int)=m+1 by omega]at pf;have vu:=aol (Rw.xS w (m+1));go_enter func360,ntmps360;go_wp2;go_loopw [6,7,8,9,23] (λcy _ _ _ i wr=>∃ (k q:Nat) (O:List Nat),k<=m/\i = .int .i64 k/\cy = .int .u32 q/\q<=1/\O.length=m+1/\iD O/\ub O k/\val O+4294967296^k*q=val (M.take k)+val (L.take k)/\Rw wr w.heap.size O/\iz w wr) (λ_ _ _ _ i _=>m-(intOf i).toNat)
 case atStart=>
  exact⟨0,0,List.replicate (m+1) 0,bN _,rfl,rfl,ag,aj,iD.Cd _,ub.Pp _,by simp[zU],vu.out,iz.alloc _ _⟩
 case round=>
  obtain⟨k,q,O,hk,rfl,rfl,hq,hO,k0,hz,kW,hR,hb⟩:=hrel;have HV:=aol kW;have HO:=aol hO;clear kW hO;have HZ:=aol hz;clear hz;by_cases iE:k<m
  .have tE:k<M.length:=by have:=HM.out;omega
   obtain⟨ab,ao,e1,_,c1⟩:=(hr.below hb).lp tE;have mG:M[k]<4294967296:=hr.ok.get tE;have ho:=HZ.out.at (by have:=HO.out;omega)
   have c4:=hR.frozen k;have ID:=hR.cell ho;have HT:=aol (yj M k tE);have HY:=aol (uW L k);have pC:L.getD k 0<4294967296:=hs.ok.getD k;have HYc:=aol (λ(h:k<L.length)=>(hs.below hb).lp h);have HYg:=aol (λ(h:k<L.length)=>An h);have HYn:=aol (λ(h:¬k<L.length)=>C0 h);have HX:=aol (rfl:M[k]=M[k]);obtain⟨a,ha⟩:∃ a,a=M[k]:=⟨_,rfl⟩
   rw[<-ha]at c1 mG HT;clear ha HX tE;have HS:=aol (PR ho HV.out HT.out HY.out);have HN:=aol (λv=>HZ.out.set v);have HOK:=aol (λv=>k0.JY k v);have HR2:=aol (λv:Nat=>hR.set k v);have HE2:=aol (λv:Value=>hb.setCell (p:=⟨w.heap.size,k,none⟩) (aV _) v);clear ho hR hb k0;subst e1;by_cases Uk:k<l
   .have wR:k<L.length:=by have:=HL.out;omega
    obtain⟨bb,bo,e2,_,c2⟩:=HYc.out wR;subst e2;rw[<-HYg.out wR]at c2;generalize L.getD k 0=b at *
    clear HYc HYg HYn wR;have HA:=aol (λw=>Eh a b q w mG pC hq);go_wp2_with fail;refine(HA.out _).mono ?_;rintro e w1 ⟨rfl,rfl⟩;go_wp2;go_roundw
    case rel=>
     exact⟨k+1,(a+b+q)/4294967296,O.set k ((a+b+q)%4294967296),ae,by go_num,rfl,ae,by rw[cw];exact HO.out,HOK.out _,HN.out _,HS.out,HR2.out _,HE2.out _⟩
    case measure=>simp[intOf];omega
   .rw [HYn.out (by have:=HL.out;omega)]at HS
    clear HYc HYg HYn pC HY;have HA:=aol (λw=>Eh a 0 q w mG ag hq);go_wp2_with fail;refine(HA.out _).mono ?_;rintro e w1 ⟨rfl,rfl⟩;go_wp2;go_roundw
    case rel=>
     exact⟨k+1,(a+0+q)/4294967296,O.set k ((a+0+q)%4294967296),ae,by go_num,rfl,ae,by rw[cw];exact HO.out,HOK.out _,HN.out _,HS.out,HR2.out _,HE2.out _⟩
    case measure=>simp[intOf];omega
  .obtain rfl:k=m:= ae 
   have ho:=HZ.out.at (by have:=HO.out;omega)
   have c4:=hR.frozen k;have ID:=hR.cell ho;have HF:=aol (show val (O.set k q)=val L+val M by
    have h:=K3 (c:=q) ho;rw[bX,bC ae,bW ae,cv,bB,HV.out,show M.take k=M from ct (by rw[HM.out];exact aV _),show L.take k=L from ct (by rw[<-HL.out];omega)]at h;omega)
   have HLn:=aol (show(O.set k q).length=k+1 by rw[cw];exact HO.out);have HOK:Hid (iD (O.set k q)):=k0.set k ae;have HR2:=aol (hR.set k q);have HE2:=aol (λv:Value=>hb.setCell (p:=⟨w.heap.size,k,none⟩) (aV _) v);clear ho hR hb k0;go_wp2;go_ret;have tJ:=HR2.out.sl HOK.out (by rw[HLn.out];omega);rw[HLn.out]at tJ;exact⟨_,HF.out,HOK.out,HLn.out,_,_,(by rw[HLn.out];rfl),tJ,HE2.out _⟩
theorem VP(A B:Option Addr)(c d:Nat)(L M:List Nat)(w:World)(hs:Sl w A c L)(hr:Sl w B d M)(h1:L.length<=3000)(h2:M.length<=3000):
 Calls prog 360 #[.slice A L.length c,.slice B M.length d] w (Kx w (val L+val M) (max L.length M.length+1)):=by
 by_cases hc:M.length<=L.length
 .rw [Nat.max_eq_left hc];exact ahy A B c d L M w hs hr h1 h2 hc
 .rw [Nat.max_eq_right ae];exact ahz A B c d L M w hs hr h1 h2 ae 
theorem ahx(A B:Option Addr)(c d:Nat)(L M:List Nat)(w:World)(hs:Sl w A c L)(hr:Sl w B d M)(h1:L.length<=3000)(h2:M.length<=3000):
 Calls prog 360 #[.slice A L.length c,.slice B M.length d] w (PB w (val L+val M) (max L.length M.length+1)):=
 (VP A B c d L M w hs hr h1 h2).mono λ_ _ ⟨T,a,b,c,d⟩=>⟨T,a,b,fL c,d⟩
theorem ahA(A B:Option Addr)(c d:Nat)(L M:List Nat)(w:World)(uy:Sl w A c L)(wX:Sl w B d M)(h1:L.length<=3000)(_h2:M.length<=3000)(hle:val M<=val L):
 Calls prog 361 #[.slice A L.length c,.slice B M.length d] w (PB w (val L-val M) L.length):=by
 have L6:=aol (λw (h:Sl w A c L)=>uH A c L w h);have L7:=aol (λw (h:Sl w B d M)=>uH B d M w h);have hs:=uy.tW;have hr:=wX.tW;have Fj:=oG L;have Uc:=oG M;have xL:=oO L;have nD:=oO M;have De:(il M).length<=(il L).length:=by
  apply bG;intro h;have:=Km hs.ok (zP M) ae;omega
 unfold lZ at xL nD;rw[<-Fj,<-Uc]at hle ⊢;clear Fj Uc;obtain⟨n1,rS⟩:∃ n,n=L.length:=⟨_,rfl⟩
 obtain⟨n2,kj⟩:∃ n,n=M.length:=⟨_,rfl⟩
 rw[<-rS]at h1 xL L6 ⊢;rw[<-kj]at _h2 nD L7 ⊢;have HTL:=aol (L6.out w uy);have HTM:=aol (L7.out w wX);clear L6 L7 uy wX rS kj;generalize il L=L at *
 generalize il M=M at *
 obtain⟨l,hl⟩:∃ l,l=L.length:=⟨_,rfl⟩
 obtain⟨m,hm⟩:∃ m,m=M.length:=⟨_,rfl⟩
 rw[<-hl]at xL HTL De;rw[<-hm]at nD HTM De;have HL:=aol hl;have HM:=aol hm;have HLE:=aol hle;clear hl hm hle;have pf:=DB l ae;have vu:=aol (Rw.xS w l);go_enter func361,ntmps361;go_wp2_with fail;refine HTL.out.mono ?_;rintro e w1 ⟨rfl,rfl⟩;go_wp2_with fail;refine HTM.out.mono ?_;rintro e w1 ⟨rfl,rfl⟩;go_wp2;go_loopw [6,7,8,9,19] (λcy _ _ _ i wr=>∃ (k q:Nat) (O:List Nat),k<=l/\i = .int .i64 k/\cy = .int .u32 q/\q<=1/\O.length=l/\iD O/\ub O k/\val O+val (M.take k)=val (L.take k)+4294967296^k*q/\Rw wr w.heap.size O/\iz w wr) (λ_ _ _ _ i _=>l-(intOf i).toNat)
 case atStart=>
  exact⟨0,0,List.replicate l 0,bN _,rfl,rfl,ag,aj,iD.Cd _,ub.Pp _,by simp[zU],vu.out,iz.alloc _ _⟩
 case round=>
  obtain⟨k,q,O,hk,rfl,rfl,hq,hO,k0,hz,kW,hR,hb⟩:=hrel;have HV:=aol kW;have HO:=aol hO;clear kW hO;have HZ:=aol hz;clear hz;by_cases iE:k<l
  .have tE:k<L.length:=by have:=HL.out;omega
   obtain⟨ab,ao,e1,_,c1⟩:=(hs.below hb).lp tE;have mG:L[k]<4294967296:=hs.ok.get tE;have ho:=HZ.out.at (by have:=HO.out;omega)
   have c4:=hR.frozen k;have ID:=hR.cell ho;have HT:=aol (yj L k tE);have HY:=aol (uW M k);have pC:M.getD k 0<4294967296:=hr.ok.getD k;have HYc:=aol (λ(h:k<M.length)=>(hr.below hb).lp h);have HYg:=aol (λ(h:k<M.length)=>An h);have HYn:=aol (λ(h:¬k<M.length)=>C0 h);obtain⟨a,ha⟩:∃ a,a=L[k]:=⟨_,rfl⟩
   rw[<-ha]at c1 mG HT;clear ha tE;have HN:=aol (λv=>HZ.out.set v);have HOK:=aol (λ(v:Nat) (h:v<4294967296)=>k0.set k h);have HR2:=aol (λv:Nat=>hR.set k v);have HE2:=aol (λv:Value=>hb.setCell (p:=⟨w.heap.size,k,none⟩) (aV _) v);have HO0:=aol ho;clear ho hR hb k0;subst e1;by_cases Uk:k<m
   .have wR:k<M.length:=by have:=HM.out;omega
    obtain⟨bb,bo,e2,_,c2⟩:=HYc.out wR;subst e2;rw[<-HYg.out wR]at c2;generalize M.getD k 0=b at *
    clear HYc HYg HYn wR;have HS:=aol (Yo HO0.out HV.out HT.out HY.out (Ev a b q mG pC hq).1);have HD:=aol (Ev a b q mG pC hq).2;have HA:=aol (λw=>Yl a b q w mG pC hq);generalize xw a b q=dd at *
    generalize Bi a b q=bb' at *
    go_wp2_with fail;refine(HA.out _).mono ?_;rintro e w1 ⟨rfl,rfl⟩;go_wp2;go_roundw
    case rel=>
     exact⟨k+1,bb',O.set k dd,ae,by go_num,rfl,HD.out.1,by rw[cw];exact HO.out,HOK.out _ HD.out.2,HN.out _,HS.out,HR2.out _,HE2.out _⟩
    case measure=>simp[intOf];omega
   .rw [HYn.out (by have:=HM.out;omega)]at HY
    clear HYc HYg HYn pC;have HS:=aol (Yo HO0.out HV.out HT.out HY.out (Ev a 0 q mG ag hq).1);have HD:=aol (Ev a 0 q mG ag hq).2;have HA:=aol (λw=>Yl a 0 q w mG ag hq);generalize xw a 0 q=dd at *
    generalize Bi a 0 q=bb' at *
    go_wp2_with fail;refine(HA.out _).mono ?_;rintro e w1 ⟨rfl,rfl⟩;go_wp2;go_roundw
    case rel=>
     exact⟨k+1,bb',O.set k dd,ae,by go_num,rfl,HD.out.1,by rw[cw];exact HO.out,HOK.out _ HD.out.2,HN.out _,HS.out,HR2.out _,HE2.out _⟩
    case measure=>simp[intOf];omega
  .obtain rfl:k=l:= ae 
   have HF:=aol (show val O=val L-val M by
    have h:=HV.out;rw[show L.take k=L from ct (by rw[HL.out];exact aV _),show M.take k=M from ct (by rw[<-HM.out];exact De)]at h;exact(Yn k0 HO.out h HLE.out).2)
   go_wp2;go_ret;have tJ:=hR.sl k0 (by rw[HO.out];omega);exact⟨_,HF.out,k0,by rw[HO.out];exact xL,_,_,(by rw[HO.out];rfl),tJ,hb⟩
theorem YT{T:List Nat}{v:Nat}(h:iD T)(hv:val T=v):il T=gV v:=by rw[qE h,hv]
theorem VE(A B:Option Addr)(c d:Nat)(L M:List Nat)(w:World)(hs:Sl w A c L)(hr:Sl w B d M)(h1:L.length<=256)(h2:M.length<=256)(hf:(gV (val L+val M)).length<=256):
 Calls prog 321 #[.slice A L.length c,.slice B M.length d] w (Cv w (gV (val L+val M)) 0):=by
 have H1:=aol (λw (h:Sl w A c L) (k:Sl w B d M)=>ahx A B c d L M w h k ae ae);generalize val L+val M=v at *
 go_enter func321,ntmps321;go_wp2_with fail;refine(Va _ A B _ c _ d _ false (PE _ _ _ _ _ _ _) (PF _ _ _ _ _ _ _) av).mono ?_;rintro e w' ⟨rfl,rfl⟩;go_wp2_with fail;refine(H1.out _ (hs.alloc _) (hr.alloc _)).mono ?_;rintro e w' ⟨T,hv,hk,hl,A',c',rfl,mR,hb⟩;have ht:=aol (YT hk hv);go_wp2_with fail;refine(FO A' c' T _ mR (by rw[ht.out];exact hf)).mono ?_;rintro e w'' ⟨A'',c'',rfl,qM,mA⟩;rw[ht.out]at qM ⊢;go_wp2;go_ret2;exact⟨A'',c'',rfl,qM,(iz.alloc _ _).trans (hb.trans mA)⟩
theorem NG(A B:Option Addr)(c d:Nat)(L M:List Nat)(w:World)(hs:Sl w A c L)(hr:Sl w B d M)(h1:L.length<=256)(h2:M.length<=256)(hle:val M<=val L):
 Calls prog 322 #[.slice A L.length c,.slice B M.length d] w (Cv w (gV (val L-val M)) 0):=by
 have H1:=aol (λw (h:Sl w A c L) (k:Sl w B d M)=>ahA A B c d L M w h k ae ae hle);have HC:=aol (λw (h:Sl w A c L) (k:Sl w B d M)=>FN A B c d L M w h k ae ae);have hc:decide (kf (val L) (val M)<0)=false:=by
  apply aU;unfold kf;rw[aR ae];split<;>decide
 have hf:(gV (val L-val M)).length<=256:=aY (me (dm _ _)) (Ns hs.ok h1);generalize val L-val M=v at *
 generalize kf (val L) (val M)=q at *
 clear hle;go_enter func322,ntmps322;go_wp2_with fail;refine(Va _ A B _ c _ d _ false (PE _ _ _ _ _ _ _) (PF _ _ _ _ _ _ _) av).mono ?_;rintro e w' ⟨rfl,rfl⟩;go_wp2_with fail;refine(HC.out _ (hs.alloc _) (hr.alloc _)).mono ?_;rintro e w1 ⟨rfl,jb⟩;go_wp2_with fail;refine(H1.out _ ((hs.alloc _).below jb) ((hr.alloc _).below jb)).mono ?_;rintro e w' ⟨T,hv,hk,hl,A',c',rfl,mR,hb⟩;have ht:=aol (YT hk hv);go_wp2_with fail;refine(FO A' c' T _ mR (by rw[ht.out];exact hf)).mono ?_;rintro e w'' ⟨A'',c'',rfl,qM,mA⟩;rw[ht.out]at qM ⊢;go_wp2;go_ret2;exact⟨A'',c'',rfl,qM,(iz.alloc _ _).trans (jb.trans (hb.trans mA))⟩
end Go.Proofs.YtkjkcjhacddojaaGreatDoor
namespace Go.Proofs.YtkjkcjhacddojaaGreatDoor.Fp
def kG(d:Dy):Dy:=if mW d then d else jA
def mP(d:Dy):Int:=if mW d then 0 else 9
theorem Bl{d:Dy}(h:mW d):kG d=d:=aS h
theorem Hm{d:Dy}(h:mW d):mP d=0:=aS h
theorem K5{d:Dy}(h:¬mW d):kG d=jA:=aR h
theorem Hl{d:Dy}(h:¬mW d):mP d=9:=aR h
theorem QZ{d:Dy}(h:d.kN):(kG d).ic:=by
 by_cases hr:mW d
 .rw [Bl hr];exact⟨h,hr⟩
 .rw [K5 hr];exact rI
theorem O4{a b:Dy}(ha:a.m≠0)(hb:b.m≠0):iJ a b=iJ b a:=by
 unfold iJ;rw[aR ha,aR hb,aR hb,aR ha,Int.min_comm,Int.add_comm]
theorem Yu{a b:Dy}(ha:a.ic)(hb:b.ic)(a0:a.m≠0)(b0:b.m≠0){k:Int}(hk:min a.e b.e=k)(h1:4097<a.iw-k)(h2:1<a.iw-b.iw):¬mW (iJ a b):=by
 have TF:k<=a.e:= ae ;have TG:k<=b.e:= ae ;have m1:=Hd a0 TF;have m2:=Hd b0 TG;have ta:a.iw=ie a.m+a.e:=by unfold Dy.iw;rw[aR a0]
 have tb:b.iw=ie b.m+b.e:=by unfold Dy.iw;rw[aR b0]
 have ba:ie a.m<=4096:=by rcases ha.range with h|⟨h,_⟩;exact absurd h a0;exact h
 have jJ:a.e≠k:= ae ;have uh:b.e=k:= ae ;have oa:a.jS k%2=0:=by
  unfold Dy.jS;obtain⟨j,hj⟩:∃ j,(a.e-k).toNat=j+1:=⟨(a.e-k).toNat-1,ae⟩
  rw[hj,a6,<-bd,eJ]
 have ob:b.jS k%2=1:=by
  unfold Dy.jS;rw[uh,show(k-k).toNat=0 by omega,bO,bQ];rcases hb.canon with⟨h,_,_⟩|h
  .exact absurd h b0
  .exact h
 have pa:=vI a0 k;obtain⟨p,hp⟩:∃ p,ie (a.jS k)=p+2:=⟨ie (a.jS k)-2,ae⟩
 have l1:=rH (show a.jS k≠0 by omega);have l2:=oY (b.jS k);rw[hp,show p+2-1=p+1 by omega,a6]at l1;have l3:2^ie (b.jS k)<=2^p:=bj ag ae;have hz:(a.num k+b.num k).natAbs%2=1/\2^p<=(a.num k+b.num k).natAbs:=by
  unfold Dy.num;generalize a.jS k=x at *
  generalize b.jS k=y at *
  generalize 2^p=P at *
  split<;>split<;>omega
 unfold iJ;rw[aR a0,aR b0,hk];unfold kY;generalize (a.num k+b.num k).natAbs=z at *
 generalize decide (a.num k+b.num k<0)=s at *
 have hc:canon s z k=⟨s,z,k⟩:=Dy.kN.CF (d:=⟨s,z,k⟩) (.inr hz.1);rw[hc];have hb:=sA.2 hz.2;rintro(h|⟨h,_⟩)
 .simp only at h;omega
 .simp only at h;omega
theorem alD{a b:Dy}(ha:a.ic)(hb:b.ic)(a0:a.m≠0)(b0:b.m≠0){k:Int}(hk:min a.e b.e=k)(h1:4097<max a.iw b.iw-k)(h2:1<a.iw-b.iw\/1<b.iw-a.iw):¬mW (iJ a b):=by
 rcases h2 with h2|h2
 .exact Yu ha hb a0 b0 hk ae h2
 .rw [O4 a0 b0]
  exact Yu (k:=k) hb ha b0 a0 (by rw[Int.min_comm];exact hk) ae h2
theorem alF{a b:Dy}(ha:a.ic)(hb:b.ic)(a0:a.m≠0)(b0:b.m≠0){k:Int}(hk:min a.e b.e=k)(h:¬(4097<max a.iw b.iw-k/\(1<a.iw-b.iw\/1<b.iw-a.iw))):
 ie (a.m*2^(a.e-k).toNat)<=4097/\ie (b.m*2^(b.e-k).toNat)<=4097:=by
 have ta:a.iw=ie a.m+a.e:=by unfold Dy.iw;rw[aR a0]
 have tb:b.iw=ie b.m+b.e:=by unfold Dy.iw;rw[aR b0]
 have ba:ie a.m<=4096:=by rcases ha.range with h|⟨h,_⟩;exact absurd h a0;exact h
 have bb:ie b.m<=4096:=by rcases hb.range with h|⟨h,_⟩;exact absurd h b0;exact h
 rw[qt a0,qt b0];omega
theorem aaR{x y n:Nat}(hx:ie x<=n)(hy:ie y<=n):ie (x+y)<=n+1:=by
 rw[kR]at *
 rw[a6];omega
def jc(m:Nat)(e:Int)(p:Nat):Nat:=(max (max ((ie m:Int)-p) (-16384-e)) 0).toNat
def kH(m:Nat)(e:Int)(more:Bool)(p:Nat)(out:Bool):Nat:=
 m/2^jc m e p+if out=true/\(more=true\/m%2^jc m e p≠0)then 1 else 0
def lV(m:Nat)(e:Int)(more:Bool)(p:Nat)(out:Bool):Bool:=
 decide (kH m e more p out≠0)&&decide (16384<(ie (kH m e more p out):Int)+e+jc m e p)
def jR(neg:Bool)(m:Nat)(e:Int)(more:Bool)(p:Nat)(up:Bool):Dy:=
 if lV m e more p (neg != up)=true then(if(neg != up)=true then jA else canon neg (2^p-1) (16384-p))else canon neg (kH m e more p (neg != up)) (e+jc m e p)
def jH(neg:Bool)(m:Nat)(e:Int)(more:Bool)(p:Nat)(up:Bool):Int:=
 if(lV m e more p (neg != up)&&(neg != up))=true then 9 else 0
theorem acu{N d k:Nat}:(N/2^d%2^k≠0\/N%2^d≠0)↔N%2^(d+k)≠0:=by
 have e1:N%2^(d+k)=N%2^d+2^d*(N/2^d%2^k):=by rw[aX,fM]
 have hp:0<2^d:=aZ ag;rw[e1];constructor
 .rintro (h|h)
  .have:=eG hp (dE h)
   omega
  .omega
 .intro h
  by_cases h1:N%2^d=0
  .left
   intro h2;rw[h1,h2,cv]at h;exact h rfl
  .exact .inr h1
theorem acg{N:Nat}{E:Int}{more:Bool}{d p:Nat}(hb:p<ie (N/2^d)):
 jc (N/2^d) (E+d) p+d=jc N E p /\
 ∀ out,kH (N/2^d) (E+d) (more||decide (N%2^d≠0)) p out=kH N E more p out:=by
 have hN:d<ie N:=by
  apply bG;intro h;have h1:N<2^d:=kR.1 ae;rw[bW h1]at hb;simp[ie]at hb
 have Bw:ie (N/2^d)+d=ie N:=by
  have h0:N/2^d≠0:=by intro h;rw[h]at hb;simp[ie]at hb
  have h1:=rH h0;have h2:=oY (N/2^d);obtain⟨j,hj⟩:∃ j,ie (N/2^d)=j+1:=⟨ie (N/2^d)-1,ae⟩
  rw[hj]at h1 h2 ⊢;rw[dI,cM (aZ ag),<-aX]at h1;rw[bS (aZ ag),<-aX]at h2;have:=u4 (k:=j+d) h1 (by rw[show j+d+1=j+1+d by omega];exact h2);omega
 have hk:jc (N/2^d) (E+d) p+d=jc N E p:=by
  unfold jc;omega
 refine⟨hk,λout=>?_⟩;unfold kH;rw[<-hk];generalize jc (N/2^d) (E+d) p=k;have Mm:=@acu N d k;rw[show k+d=d+k by omega,cA,<-aX];congr 1;have:((more||decide (N%2^d≠0))=true\/N/2^d%2^k≠0)↔(more=true\/N%2^(d+k)≠0):=by
  rw[<-Mm];simp only[fH,bU];constructor
  .rintro ((h|h)|h)
   .exact .inl h
   .exact .inr (.inr h)
   .exact .inr (.inl h)
  .rintro (h|h|h)
   .exact .inl (.inl h)
   .exact .inr h
   .exact .inl (.inr h)
 by_cases ho:out=true
 .simp only[ho,true_and,this]
 .rw [aR (λh=>ho h.1),aR (λh=>ho h.1)]
theorem Ho{N:Nat}{E:Int}{more:Bool}{d p:Nat}(neg up:Bool)(hb:p<ie (N/2^d)):
 jR neg (N/2^d) (E+d) (more||decide (N%2^d≠0)) p up=jR neg N E more p up /\
 jH neg (N/2^d) (E+d) (more||decide (N%2^d≠0)) p up=jH neg N E more p up:=by
 obtain⟨hk,hq⟩:=acg (more:=more) (E:=E) hb;have hq:=hq (neg != up);have e1:E+(d:Int)+(jc (N/2^d) (E+d) p:Int)=E+(jc N E p:Int):= ae ;have e2:(ie (kH N E more p (neg != up)):Int)+(E+(d:Int))+(jc (N/2^d) (E+d) p:Int)=(ie (kH N E more p (neg != up)):Int)+E+(jc N E p:Int):= ae ;have ho:lV (N/2^d) (E+d) (more||decide (N%2^d≠0)) p (neg != up)=lV N E more p (neg != up):=by
  unfold lV;rw[hq,e2]
 unfold jR jH;rw[hq,ho,e1];exact⟨rfl,rfl⟩
theorem K2(s:Bool)(m:Nat)(e:Int)(j:Nat):canon s (m*2^j) (e-j)=canon s m e:=by
 by_cases h0:m=0
 .subst h0;rw[cr];rfl
 .have h1:m*2^j≠0:=du h0 (dJ (aZ ag))
  obtain⟨q,hq,he⟩:=Bm h0;have hc:jQ (m*2^j)=jQ m+j:=by
   conv=>lhs;rw[he,bd,<-aX]
   exact yH hq _
  unfold canon;rw[aR h1,aR h0,hc,aX,bc (2^jQ m),<-cA,dv _ (aZ ag)];rw[show e-(j:Int)+((jQ m+j:Nat):Int)=e+(jQ m:Int)by omega]
theorem acf(neg up:Bool)(N:Nat)(E:Int)(j p:Nat)(h0:N≠0):
 jR neg (N*2^j) (E-j) false p up=jR neg N E false p up/\jH neg (N*2^j) (E-j) false p up=jH neg N E false p up:=by
 have Bw:=qt h0 j;by_cases hk:jc N E p=0
 .
  have sV:jc (N*2^j) (E-j) p<=j:=by unfold jc at hk ⊢;rw[Bw];omega
  obtain⟨i,hi⟩:∃ i,j=i+jc (N*2^j) (E-j) p:=⟨j-jc (N*2^j) (E-j) p,ae⟩
  generalize hK:jc (N*2^j) (E-j) p=k at *
  have hdiv:N*2^j/2^k=N*2^i:=by
   rw[hi,aX,<-bd,dv _ (aZ ag)]
  have MC:N*2^j%2^k=0:=by
   rw[hi,aX,<-bd];exact eJ _ _
  have hq:∀ out,kH (N*2^j) (E-j) false p out=N*2^i:=λout=>by
   unfold kH;rw[hK,hdiv,MC];simp
  have ux:∀ out,kH N E false p out=N:=λout=>by
   unfold kH;rw[hk];simp[cI]
  have jJ:N*2^i≠0:=du h0 (dJ (aZ ag));have ho:∀ out,lV (N*2^j) (E-j) false p out=lV N E false p out:=λout=>by
   unfold lV;rw[hq,ux,hK,hk,qt h0 i];simp only[cW,jJ,h0,ev,fK,dF];rw[anV];omega
  unfold jR jH;rw[ho,hq,ux,hK,hk];rw[show E-(j:Int)+k=E+((0:Nat):Int)-(i:Int)by omega,K2];exact⟨rfl,rfl⟩
 .have sV:jc (N*2^j) (E-j) p=jc N E p+j:=by unfold jc at hk ⊢;rw[Bw];omega
  have hq:∀ out,kH (N*2^j) (E-j) false p out=kH N E false p out:=λout=>by
   unfold kH;rw[sV,aX,bc (2^jc N E p),<-cA,dv _ (aZ ag),bc N,gw];have:(2^j*(N%2^jc N E p)≠0)↔(N%2^jc N E p≠0):=by
    rw[cW,cW,anY];have:=aZ (n:=j) (ag:0<2);omega
   simp only[this]
  have ho:∀ out,lV (N*2^j) (E-j) false p out=lV N E false p out:=λout=>by
   unfold lV;rw[hq,sV];congr 2;rw[eq_iff_iff];omega
  unfold jR jH;rw[ho,hq,sV];rw[show E-(j:Int)+((jc N E p+j:Nat):Int)=E+(jc N E p:Int)by omega];exact⟨rfl,rfl⟩
def jh(d:Dy)(p:Nat)(up:Bool):Dy:=jR d.neg d.m d.e false p up
def jx(d:Dy)(p:Nat)(up:Bool):Int:=jH d.neg d.m d.e false p up
theorem Xz(s up:Bool)(m:Nat)(e:Int)(p:Nat)(h0:m≠0):
 jh (canon s m e) p up=jR s m e false p up/\jx (canon s m e) p up=jH s m e false p up:=by
 have hm:=Ew h0;have hq:m/2^jQ m≠0:=by have:=DH h0;omega
 have h:=acf s up (m/2^jQ m) (e+jQ m) (jQ m) p hq;rw[hm,show e+(jQ m:Int)-(jQ m:Int)=e by omega]at h;unfold jh jx canon;rw[aR h0];exact⟨h.1.symm,h.2.symm⟩
theorem Bj{s:Bool}{m:Nat}{e:Int}(h0:m≠0):(ie (canon s m e).m:Int)+(canon s m e).e=ie m+e/\e<=(canon s m e).e/\(canon s m e).m≠0/\ie (canon s m e).m<=ie m:=by
 have hm:=Ew h0;have hq:m/2^jQ m≠0:=by have:=DH h0;omega
 have h:=qt hq (jQ m);rw[hm]at h;unfold canon;rw[aR h0];simp only;exact⟨ae,ae,hq,ae⟩
theorem Rt(m:Nat)(e:Int)(p:Nat):m/2^jc m e p<2^p:=by
 rw[bS (aZ ag),<-aX];refine kR.1 ?_;unfold jc;omega
theorem abM{s:Bool}{q p:Nat}{e:Int}(h:q<=2^p)(hp:1<=p):ie (canon s q e).m<=p:=by
 by_cases h0:q=0
 .subst h0;exact bN _
 .by_cases h1:q=2^p
  .have hc:jQ q=p:=by rw[h1];have:=yH (m:=1) rfl p;rwa[bK]at this
   unfold canon;rw[aR h0,hc,h1,Nat.div_self (aZ ag)];exact aY (kR.2 (show 1<2^1 by decide)) hp
  .exact aY (Bj h0).2.2.2 (kR.2 ae)
theorem Rh(m:Nat)(e:Int)(more:Bool)(p:Nat)(out:Bool):kH m e more p out<=2^p:=by
 have:=Rt m e p;unfold kH;split<;>omega
theorem mu(neg:Bool)(m:Nat)(e:Int)(more:Bool)(p:Nat)(up:Bool)(hp:1<=p)(ia:p<=4096):(jR neg m e more p up).ic:=by
 unfold jR;by_cases ho:lV m e more p (neg != up)=true
 .rw [aS ho]
  by_cases hn:(neg != up)=true
  .rw [aS hn];exact rI
  .rw [aR hn]
   have wW:2<=2^p:=by
    have:=bj (n:=2) ag hp;omega
   have h0:2^p-1≠0:= ae ;have hb:ie (2^p-1)=p:=by
    obtain⟨j,rfl⟩:∃ j,p=j+1:=⟨p-1,ae⟩
    have h2:2^(j+1)=2^j*2:=a6 _ _;have h3:=aZ (n:=j) (ag:0<2);exact u4 ae ae 
   obtain⟨h1,h2,h3,h4⟩:=Bj (s:=neg) (e:=(16384:Int)-p) h0;have h5:=mY h3;exact⟨qV _ _ _,.inr ⟨ae,ae,ae,ae⟩⟩
 .rw [aR ho]
  refine⟨qV _ _ _,?_⟩;by_cases h0:kH m e more p (neg != up)=0
  .rw [h0];exact .inl rfl
  .have hq:=abM (s:=neg) (e:=e+(jc m e p:Int)) (Rh m e more p (neg != up)) hp
   obtain⟨h1,h2,h3,h4⟩:=Bj (s:=neg) (e:=e+(jc m e p:Int)) h0;have h5:=mY h3;have h6:-16384<=e+(jc m e p:Int):=by unfold jc;omega
   unfold lV at ho;simp only[cW,h0,ev,fK,dF,bU]at ho;exact .inr ⟨ae,ae,ae,ae⟩
theorem Es{neg:Bool}{m:Nat}{e:Int}{more:Bool}{p:Nat}{up:Bool}:jH neg m e more p up=0↔¬(lV m e more p (neg != up)=true/\(neg != up)=true):=by
 unfold jH;cases lV m e more p (neg != up)<;>cases(neg != up)<;>simp
theorem Rj(neg:Bool)(m:Nat)(e:Int)(more:Bool)(p:Nat)(h1:jH neg m e more p false=0)(h2:jH neg m e more p true=0):
 jo (jR neg m e more p false) (jR neg m e more p true)<=0:=by
 have qL:¬lV m e more p true=true:=by
  cases neg
  .rw [Es]at h2;simpa using h2
  .rw [Es]at h1;simpa using h1
 have hle:kH m e more p false<=kH m e more p true:=by
  unfold kH;simp only[bq,false_and,a7];omega
 have mr:¬lV m e more p false=true:=by
  unfold lV at qL ⊢;intro h;apply qL;simp only[bu,bU]at h ⊢;have:=tk hle;exact⟨ae,ae⟩
 have key:∀ o:Bool,¬lV m e more p o=true:=λo=>by cases o;exact mr;exact qL
 unfold jR;rw[aR (key _),aR (key _)];rw[CI (k:=e+(jc m e p:Int)) (Ac (b6 _)) (Ac (b6 _)),B4 (b6 _),B4 (b6 _)];rw[show(e+(jc m e p:Int)-(e+(jc m e p:Int))).toNat=0 by omega];simp only[bO,bQ];unfold wC;cases neg
 .simp only[bq,a7,Bool.false_bne]
  split
  .decide
  .split<;>omega
 .simp only[bn,Bool.true_bne,dz,ef]
  split
  .decide
  .split<;>omega
def mN(b:Dy)(low:Int):Nat:=if low<=b.e then b.m*2^(b.e-low).toNat else b.m/2^(low-b.e).toNat
def nG(b:Dy)(low:Int):Bool:=decide (¬low<=b.e)&&decide (b.m%2^(low-b.e).toNat≠0)
theorem Yp{a b:Dy}(ha:a.kN)(hb:b.kN){K:Int}(h1:K<=a.e)(h2:K<=b.e):iJ a b=kY (a.num K+b.num K) K:=by
 refine Ln (k:=K) (Bk ha hb) (qV _ _ _) (GV (.inr h1) (.inr h2)) (KB (b6 _)) ?_;rw[J7 (.inr h1) (.inr h2),NL (b6 _),show(K-K).toNat=0 by omega];simp
theorem JU{a b:Dy}(ha:a.kN)(hb:b.kN){K:Int}(h1:K<=a.e)(h2:K<=b.e)(s:Bool)(Z:Nat)(h0:Z≠0)(hz:a.num K+b.num K=if s then -(Z:Int)else(Z:Int))(p:Nat)(up:Bool):
 jh (iJ a b) p up=jR s Z K false p up/\jx (iJ a b) p up=jH s Z K false p up:=by
 have:iJ a b=canon s Z K:=by rw[Yp ha hb h1 h2,hz,Hh]
 rw[this];exact Xz s up Z K p h0
theorem Jt(d:Dy)(K:Int):d.num K=if d.neg then -(d.jS K:Int)else(d.jS K:Int):=rfl
section
variable {a b:Dy} {low:Int} {p:Nat}
theorem OJ(a0:a.m≠0)(b0:b.m≠0)(h1:low<=a.e)(h2:low<=a.iw-p-8)(h3:low<=b.e\/3<=a.iw-b.iw):
 ∃ (K:Int) (d:Nat),K<=a.e/\K<=b.e/\low=K+d/\a.jS K=a.m*2^(a.e-low).toNat*2^d/\mN b low=b.jS K/2^d/\(nG b low=decide (b.jS K%2^d≠0)) /\
  (d=0\/(p+8<=ie (a.m*2^(a.e-low).toNat)/\ie (b.jS K/2^d)+3<=ie (a.m*2^(a.e-low).toNat))):=by
 have ta:a.iw=ie a.m+a.e:=by unfold Dy.iw;rw[aR a0]
 have tb:b.iw=ie b.m+b.e:=by unfold Dy.iw;rw[aR b0]
 have hx:=qt a0 (a.e-low).toNat
 by_cases h:low<=b.e
 .refine ⟨low,0,h1,h,ae,by unfold Dy.jS;simp,?_,?_,.inl rfl⟩
  .unfold mN Dy.jS;rw[aS h];simp
  .unfold nG;simp[h,cI]
 .refine ⟨b.e,(low-b.e).toNat,ae,b6 _,ae,?_,?_,?_,.inr ⟨ae,?_⟩⟩
  .unfold Dy.jS
   rw[bd,<-aX];congr 2;omega
  .unfold mN Dy.jS;rw[aR h];simp
  .unfold nG Dy.jS;simp[h]
  .have hm:b.jS b.e=b.m:=by unfold Dy.jS;simp
   rw[hm];have hd:ie (b.m/2^(low-b.e).toNat)<=ie b.m-(low-b.e).toNat:=by
    rw[kR,bS (aZ ag),<-aX];exact kR.1 ae 
   have:=h3.resolve_left h;omega
theorem akC(ha:a.kN)(hb:b.kN)(a0:a.m≠0)(b0:b.m≠0)(h1:low<=a.e)(h2:low<=a.iw-p-8)(h3:low<=b.e\/3<=a.iw-b.iw)(hs:a.neg=b.neg)(up:Bool):
 jR a.neg (a.m*2^(a.e-low).toNat+mN b low) low (nG b low) p up=jh (iJ a b) p up/\jH a.neg (a.m*2^(a.e-low).toNat+mN b low) low (nG b low) p up=jx (iJ a b) p up:=by
 obtain⟨K,d,k1,k2,rfl,hx,hy,hl,hd⟩:=OJ (p:=p) a0 b0 h1 h2 h3;generalize a.m*2^(a.e-(K+d)).toNat=x at *
 have ma:=vI a0 K;have mb:=vI b0 K;obtain⟨r1,r2⟩:=JU ha hb k1 k2 a.neg (a.jS K+b.jS K) ae (by
  rw[Jt a,Jt b,<-hs];cases a.neg<;>simp<;>omega) p up
 rw[r1,r2,hy,hl];have e1:(a.jS K+b.jS K)/2^d=x+b.jS K/2^d:=by
  rw[hx,bc x,dc (aZ ag)]
 have e2:(a.jS K+b.jS K)%2^d=b.jS K%2^d:=by
  rw[hx,bc x,dA]
 rcases hd with rfl|⟨vv,tD⟩
 .simp only[bO,dG,cI]at e1 ⊢
  rw[<-e1];have:K+((0:Nat):Int)=K:= ae ;rw[this];simp
 .have hb:p<ie ((a.jS K+b.jS K)/2^d):=by
   rw[e1];have:=tk (show x<=x+b.jS K/2^d by omega);omega
  have h:=Ho (E:=K) (more:=false) a.neg up hb;rw[e1,e2,anZ]at h;exact h
theorem alz{x N D:Nat}(hD:0<D)(h:N<=x*D):(x*D-N)/D=x-(N/D+if N%D≠0 then 1 else 0)/\((x*D-N)%D≠0↔N%D≠0)/\N/D+(if N%D≠0 then 1 else 0)<=x:=by
 have hN:=bY N D;have hr:=bh N hD;generalize N/D=q at *
 generalize N%D=r at *
 by_cases h0:r=0
 .subst h0
  simp only[cW,ado,a7,bB]at hN ⊢;have hq:q<=x:=by
   apply bG;intro h';have:=bE D (show x+1<=q by omega);rw[bL,bc q]at this;omega
  have e:x*D-N=(x-q)*D:=by rw[Nat.sub_mul,<-hN,bc q]
  rw[e,dv _ hD,eJ];exact⟨rfl,aj,hq⟩
 .have hq:q+1<=x:=by
   apply bG;intro h';have:=bE D (show x<=q by omega);rw[bc q]at this;omega
  have e:x*D-N=(D-r)+D*(x-(q+1)):=by
   have h1:D*(x-(q+1))=D*x-D*(q+1):=Nat.mul_sub _ _ _;have h2:D*(q+1)<=D*x:=cg _ hq;rw[bt,bQ]at h1 h2;rw[bc x];omega
  have iE:D-r<D:= ae ;rw[e,eF _ _ hD,bW iE,dV,bC iE];simp only[cW,h0,ev,bn];exact⟨ae,⟨λ_=>trivial,λ_=> ae⟩,hq⟩
theorem akB(ha:a.kN)(hb:b.kN)(a0:a.m≠0)(b0:b.m≠0)(h1:low<=a.e)(h2:low<=a.iw-p-8)(h3:low<=b.e\/3<=a.iw-b.iw)(hs:a.neg≠b.neg)(up:Bool):
  (a.m*2^(a.e-low).toNat<mN b low+(if nG b low=true then 1 else 0) ->
   jR (!a.neg) (mN b low+(if nG b low=true then 1 else 0)-a.m*2^(a.e-low).toNat) low false p up=jh (iJ a b) p up/\jH (!a.neg) (mN b low+(if nG b low=true then 1 else 0)-a.m*2^(a.e-low).toNat) low false p up=jx (iJ a b) p up) /\
  (mN b low+(if nG b low=true then 1 else 0)<=a.m*2^(a.e-low).toNat ->
   (a.m*2^(a.e-low).toNat-(mN b low+(if nG b low=true then 1 else 0))=0/\nG b low=false->iJ a b=jA) /\
   (¬(a.m*2^(a.e-low).toNat-(mN b low+(if nG b low=true then 1 else 0))=0/\nG b low=false) ->
    jR a.neg (a.m*2^(a.e-low).toNat-(mN b low+(if nG b low=true then 1 else 0))) low (nG b low) p up=jh (iJ a b) p up/\jH a.neg (a.m*2^(a.e-low).toNat-(mN b low+(if nG b low=true then 1 else 0))) low (nG b low) p up=jx (iJ a b) p up)):=by
 obtain⟨K,d,k1,k2,rfl,hx,hy,hl,hd⟩:=OJ (p:=p) a0 b0 h1 h2 h3;generalize a.m*2^(a.e-(K+d)).toNat=x at *
 have ma:=vI a0 K;have mb:=vI b0 K;have IU:a.num K+b.num K=if a.neg then(b.jS K:Int)-a.jS K else(a.jS K:Int)-b.jS K:=by
  rw[Jt a,Jt b];cases h:a.neg<;>cases h':b.neg<;>simp[h,h']at hs ⊢ <;> omega
 rw[hy,hl];rcases hd with rfl|⟨vv,tD⟩
 .
  rw[bO,bQ]at hx;have e0:K+((0:Nat):Int)=K:= ae ;simp only[bO,dG,cI,cW,ado,decide_false,bq,a7,bB,e0,and_true];refine⟨λiE=>?_,λhle=>⟨λhz=>?_,λhz=>?_⟩⟩
  .obtain ⟨r1,r2⟩:=JU ha hb k1 k2 (!a.neg) (b.jS K-x) ae (by
    rw[IU,hx];cases a.neg<;>simp<;>omega) p up
   exact⟨r1.symm,r2.symm⟩
  .rw [Yp ha hb k1 k2,IU,hx]
   have:x=b.jS K:= ae ;rw[this];cases a.neg<;>simp[kY,canon,jA]
  .obtain ⟨r1,r2⟩:=JU ha hb k1 k2 a.neg (x-b.jS K) ae (by
    rw[IU,hx];cases a.neg<;>simp<;>omega) p up
   exact⟨r1.symm,r2.symm⟩
 .
  have hD:=aZ (n:=d) (ag:0<2);have mw:x≠0:=by intro h;rw[h]at vv;simp[ie]at vv
  obtain⟨j,hj⟩:∃ j,ie x=j+3:=⟨ie x-3,ae⟩
  have lv:=rH mw;rw[hj,show j+3-1=j+2 by omega,aX]at lv;have Dq:b.jS K/2^d<2^j:=kR.1 ae;have hle:b.jS K<=x*2^d:=by
   have h5:=bY (b.jS K) (2^d);have h6:=bh (b.jS K) hD;have h7:2^d*(b.jS K/2^d+1)<=2^d*x:=cg _ ae;rw[bt,bQ,bc _ x]at h7;omega
  obtain⟨e1,e2,e3⟩:=alz hD hle;have hc:(if decide (b.jS K%2^d≠0)=true then 1 else 0)=(if b.jS K%2^d≠0 then 1 else 0):=by simp only[bU]
  rw[hc];have yO:p<ie (x-(b.jS K/2^d+if b.jS K%2^d≠0 then 1 else 0)):=by
   have h8:2^(j+1)<=x-(b.jS K/2^d+if b.jS K%2^d≠0 then 1 else 0):=by
    rw[a6];have h9:2^j*2^2<=x:=lv;have wH:=aZ (n:=j) (ag:0<2);split<;>omega
   have:=sA.2 h8;omega
  refine⟨λiE=> ae,λ_=>⟨λhz=>?_,λ_=>?_⟩⟩
  .exfalso
   rw[hz.1]at yO;simp[ie]at yO
  .obtain ⟨r1,r2⟩:=JU ha hb k1 k2 a.neg (a.jS K-b.jS K) (by
    intro h;rw[<-hx,h,fN]at e1;rw[<-e1]at yO;simp[ie]at yO) (by
    rw[IU];cases a.neg<;>simp<;>omega) p up
   rw[r1,r2,hx];rw[<-e1]at yO ⊢;have h:=Ho (E:=K) (more:=false) a.neg up yO;rw[anZ]at h;have e4:decide ((x*2^d-b.jS K)%2^d≠0)=decide (b.jS K%2^d≠0):=anV.2 e2;rw[e4]at h;exact h
end
def jm(m:Nat)(e:Int)(p:Nat):Int:=max (e+ie m-p) (-16384)
def nL(m:Nat)(e:Int)(more:Bool)(p:Nat)(up:Bool):Nat:=
 if jm m e p<=e then m*2^(e-jm m e p).toNat else m/2^(jm m e p-e).toNat+if(up&&(more||decide (m%2^(jm m e p-e).toNat≠0)))=true then 1 else 0
theorem Rg{m:Nat}{e:Int}{more:Bool}{p:Nat}(up:Bool)(h0:m≠0)(hm:more=true->p<ie m)(hp:1<=p):
 (ie (nL m e more p up):Int)+jm m e p<=16384/\jR false m e more p up=canon false (nL m e more p up) (jm m e p)/\jH false m e more p up=0 \/
 16384<(ie (nL m e more p up):Int)+jm m e p/\((up=true/\jR false m e more p up=jA/\jH false m e more p up=9)\/(up=false/\jR false m e more p up=canon false (2^p-1) (16384-p)/\jH false m e more p up=0)):=by
 have qL:(false != up)=up:=by cases up<;>rfl
 by_cases hU:jm m e p<=e
 .
  have hmf:more=false:=by
   cases MD:more with
   |false=>rfl
   |true=>have:=hm MD;unfold jm at hU;omega
  subst hmf;have hK:jc m e p=0:=by unfold jm at hU;unfold jc;omega
  have hQ:kH m e false p up=m:=by unfold kH;rw[hK];simp[cI]
  have hP:nL m e false p up=m*2^(e-jm m e p).toNat:=by unfold nL;rw[aS hU]
  have hb:ie (nL m e false p up)=ie m+(e-jm m e p).toNat:=by rw[hP];exact qt h0 _
  have hc:canon false (nL m e false p up) (jm m e p)=canon false m e:=by
   rw[hP];have:=K2 false m e (e-jm m e p).toNat
   rwa[show e-((e-jm m e p).toNat:Int)=jm m e p by omega]at this
  have hO:lV m e false p up=decide (16384<(ie m:Int)+e):=by
   unfold lV;rw[hQ,hK];simp[h0]
  by_cases tH:16384<(ie m:Int)+e
  .refine .inr ⟨ae,?_⟩
   unfold jR jH;rw[qL,hO,aT tH];cases up
   .exact .inr ⟨rfl,rfl,rfl⟩
   .exact .inl ⟨rfl,rfl,rfl⟩
  .refine .inl ⟨ae,?_,?_⟩
   .unfold jR
    rw[qL,hO,aU tH,aR ag,hQ,hK,hc];simp
   .unfold jH
    rw[qL,hO,aU tH];simp
 .have hK:jc m e p=(jm m e p-e).toNat:=by unfold jm at hU ⊢;unfold jc;omega
  have hQ:kH m e more p up=nL m e more p up:=by
   unfold kH nL;rw[aR hU,hK];congr 1;cases up<;>cases more<;>simp
  have heK:e+(jc m e p:Int)=jm m e p:=by rw[hK];omega
  have jJ:16384<(ie (nL m e more p up):Int)+jm m e p->nL m e more p up≠0:=by
   intro h hz;have pZ:m/2^(jm m e p-e).toNat=0:=by
    unfold nL at hz;rw[aR hU]at hz;exact(Nat.add_eq_zero_iff.1 hz).1
   have iE:m<2^(jm m e p-e).toNat:=by
    rcases Nat.div_eq_zero_iff.1 pZ with h|h
    .exact absurd h (dJ (aZ ag))
    .exact h
   have:=kR.2 iE;rw[hz,q8]at h;have sW:=mY h0;unfold jm at h hU this;omega
  have hO:lV m e more p up=decide (16384<(ie (nL m e more p up):Int)+jm m e p):=by
   unfold lV;rw[hQ,show(ie (nL m e more p up):Int)+e+(jc m e p:Int)=(ie (nL m e more p up):Int)+jm m e p by omega];by_cases tH:16384<(ie (nL m e more p up):Int)+jm m e p
   .simp [jJ tH]
   .simp [tH]
  by_cases tH:16384<(ie (nL m e more p up):Int)+jm m e p
  .refine .inr ⟨tH,?_⟩
   unfold jR jH;rw[qL,hO,aT tH];cases up
   .exact .inr ⟨rfl,rfl,rfl⟩
   .exact .inl ⟨rfl,rfl,rfl⟩
  .refine .inl ⟨ae,?_,?_⟩
   .unfold jR
    rw[qL,hO,aU tH,aR ag,hQ,heK]
   .unfold jH
    rw[qL,hO,aU tH];simp
theorem Rf{m:Nat}{e:Int}{more:Bool}{p:Nat}{up:Bool}(h0:m≠0):ie (nL m e more p up)<=p+1:=by
 unfold nL;split
 .rename_i h
  rw[qt h0];unfold jm at h ⊢;omega
 .rename_i h
  have h1:m/2^(jm m e p-e).toNat<2^p:=by
   rw[bS (aZ ag),<-aX];refine kR.1 ?_;unfold jm at h ⊢;omega
  refine kR.2 ?_;rw[a6];have:0<2^p:=aZ ag;split<;>omega
theorem ns{m k:Nat}(h:ie m<=32*k):(gV m).length<=k:=by
 refine rj ?_;rw[nP];exact kR.1 h
theorem wq{m k:Nat}(h:(gV m).length<=k):ie m<=32*k:=by
 have:=uF h;rw[nP]at this;exact kR.2 this
theorem Rv{m n:Nat}(h:ie m<=n):m/2^n=0/\m%2^n=m:=by
 have:=kR.1 h;exact⟨bW this,bC this⟩
theorem Ve(m n:Nat):(kf (m/2^n*2^n) m != 0)=decide (m%2^n≠0):=by
 have h:=bY m (2^n);rw[bc]at h;unfold kf;by_cases h0:m%2^n=0
 .rw [aR ae,aR ae];simp[h0]
 .rw [aS ae];simp[h0]
theorem Rm(neg:Bool)(m:Nat)(e:Int)(more:Bool)(p:Nat)(up:Bool):
 jH neg m e more p up=jH false m e more p (up != neg) /\
 (jH false m e more p (up != neg)=0->neg=true->iF (jR false m e more p (up != neg))=jR neg m e more p up) /\
 ((jH false m e more p (up != neg)≠0\/neg=false)->jR false m e more p (up != neg)=jR neg m e more p up):=by
 have qL:(false != (up != neg))=(neg != up):=by cases up<;>cases neg<;>rfl
 have hE:jH neg m e more p up=jH false m e more p (up != neg):=by unfold jH;rw[qL]
 refine⟨hE,λh hn=>?_,λh=>?_⟩
 .have h':=Es.1 h
  rw[qL]at h';have neg_canon:∀ q u,iF (canon false q u)=canon true q u:=by
   intro q u;unfold canon iF;by_cases hq:q=0
   .simp [hq]
   .rw [aR hq,aR hq]
    have:=DH hq;have h0:q/2^jQ q≠0:= ae ;simp[h0]
  subst hn;unfold jR;rw[qL];by_cases ho:lV m e more p (true != up)=true
  .have hu:(true != up)=false:=by
    cases hq:(true != up)with
    |false=>rfl
    |true=>exact absurd ⟨ho,hq⟩ h'
   rw[aS ho,aS ho,hu];simp only[bq,a7];exact neg_canon _ _
  .rw [aR ho,aR ho]
   exact neg_canon _ _
 .rcases h with h|h
  .have h1:lV m e more p (neg != up)=true/\(neg != up)=true:=by
    by_cases q:lV m e more p (neg != up)=true/\(neg != up)=true
    .exact q
    .exact absurd (Es.2 (by rw[qL];exact q)) h
   unfold jR;rw[qL,aS h1.1,aS h1.2,aS h1.1,aS h1.2]
  .subst h
   cases up<;>rfl
def jq(a b:Dy)(p:Nat):Int:=if a.iw-b.iw<=2 then min (min a.e (a.iw-p-8)) b.e else min a.e (a.iw-p-8)
def nQ(a b:Dy)(p:Nat):Nat:=a.m*2^(a.e-jq a b p).toNat
def mL(a b:Dy)(p:Nat):Nat:=mN b (jq a b p)+if(a.neg != b.neg&&nG b (jq a b p))=true then 1 else 0
def pq(a b:Dy)(p:Nat):Bool:=(a.neg != b.neg)&&decide (nQ a b p<mL a b p)
def lY(a b:Dy)(p:Nat):Nat:=if a.neg=b.neg then nQ a b p+mL a b p else if nQ a b p<mL a b p then mL a b p-nQ a b p else nQ a b p-mL a b p
def nh(a b:Dy)(p:Nat):Bool:=nG b (jq a b p) && !pq a b p
theorem OE(a b:Dy)(p:Nat):jq a b p<=a.e/\jq a b p<=a.iw-p-8/\(jq a b p<=b.e\/3<=a.iw-b.iw):=by
 unfold jq;split<;>omega
theorem Gx{a:Dy}(a0:a.m≠0):a.iw=ie a.m+a.e:=by unfold Dy.iw;rw[aR a0]
structure ZF(a b:Dy)(p:Nat):Prop where
 lo:-17000<=jq a b p
 hi:jq a b p<=16384
 x:ie (nQ a b p)<=4100
 x0:nQ a b p≠0
 sh:(a.e-jq a b p).toNat<=60000
 sh2:(b.e-jq a b p).toNat<=60000
 sh3:(jq a b p-b.e).toNat<=60000
 y:ie (mN b (jq a b p))<=4100
 l:nG b (jq a b p)=true->p+8<=ie (nQ a b p)/\ie (mN b (jq a b p))+3<=ie (nQ a b p)
theorem J9{a b:Dy}{p:Nat}(ha:a.ic)(hb:b.ic)(a0:a.m≠0)(b0:b.m≠0)(ht:b.iw<=a.iw)(ia:p<=512):ZF a b p:=by
 have ra:=ha.range.resolve_left a0;have rb:=hb.range.resolve_left b0;have ta:=Gx a0;have tb:=Gx b0;obtain⟨h1,h2,h3⟩:=OE a b p;have hx:ie (nQ a b p)=ie a.m+(a.e-jq a b p).toNat:=qt a0 _;have Av:jq a b p=a.e\/jq a b p=a.iw-p-8\/(a.iw-b.iw<=2/\jq a b p=b.e):=by unfold jq;split<;>omega
 have hy:ie (mN b (jq a b p))<=ie (nQ a b p):=by
  unfold mN;split
  .rw [qt b0];omega
  .have:ie (b.m/2^(jq a b p-b.e).toNat)<=ie b.m-(jq a b p-b.e).toNat:=by
    rw[kR,bS (aZ ag),<-aX];exact kR.1 ae 
   omega
 have pa:=mY a0;have pb:=mY b0;refine⟨ae,ae,ae,?_,ae,ae,ae,ae,λhl=>?_⟩
 .intro h
  unfold nQ at h;exact(du a0 (dJ (aZ ag))) h
 .obtain ⟨K,d,k1,k2,k3,k4,k5,k6,k7⟩:=OJ (p:=p) a0 b0 h1 h2 h3
  rcases k7 with rfl|⟨k7,k8⟩
  .rw [k6]at hl;simp[cI]at hl
  .rw [k5];exact⟨k7,k8⟩
theorem O5{a b:Dy}{p:Nat}(ha:a.ic)(hb:b.ic)(a0:a.m≠0)(b0:b.m≠0)(ht:b.iw<=a.iw)(ia:p<=512):
 ie (mL a b p)<=4101/\ie (lY a b p)<=4102/\(nh a b p=true->p<ie (lY a b p)):=by
 obtain⟨l1,l2,l3,l4,l5,l6,l7,l8,l9⟩:=J9 ha hb a0 b0 ht ia;have hy:mL a b p<=mN b (jq a b p)+1:=by unfold mL;split<;>omega
 obtain⟨K,hK⟩:∃ K:Nat,K=4100:=⟨_,rfl⟩
 have g1:4101=K+1:= ae ;have g2:4102=K+2:= ae ;rw[g1,g2];rw[<-hK]at l3 l8;have hy4:mN b (jq a b p)<2^K:=kR.1 l8;have hx4:nQ a b p<2^K:=kR.1 l3;have e1:(2:Nat)^(K+1)=2*2^K:=by rw[a6];omega
 have e2:(2:Nat)^(K+2)=4*2^K:=by rw[aX];omega
 generalize (2:Nat)^K=Z at *
 refine⟨kR.2 ae,kR.2 ?_,λhl=>?_⟩
 .unfold lY;split
  .omega
  .split<;>omega
 .unfold nh at hl
  simp only[bu,ew]at hl;obtain⟨q1,q2⟩:=l9 hl.1;have hX:2^(ie (nQ a b p)-1)<=nQ a b p:=rH l4;rw[sA];have hY:mN b (jq a b p)<2^(ie (nQ a b p)-3):=kR.1 ae;have e3:(2:Nat)^(ie (nQ a b p)-1)=4*2^(ie (nQ a b p)-3):=by
   rw[show ie (nQ a b p)-1=(ie (nQ a b p)-3)+2 by omega,aX];omega
  have hp:(2:Nat)^p<=2^(ie (nQ a b p)-3):=bj ag ae;unfold lY;split
  .omega
  .rename_i hs
   unfold pq at hl;rw[aR (by
    have:=hl.2;simp[hs]at this;omega)]
   omega
theorem Yv{a b:Dy}{p:Nat}(ha:a.ic)(hb:b.ic)(a0:a.m≠0)(b0:b.m≠0)(up:Bool):
 (lY a b p=0/\nh a b p=false->iJ a b=jA) /\
 (¬(lY a b p=0/\nh a b p=false)->jR (a.neg != pq a b p) (lY a b p) (jq a b p) (nh a b p) p up=jh (iJ a b) p up/\jH (a.neg != pq a b p) (lY a b p) (jq a b p) (nh a b p) p up=jx (iJ a b) p up):=by
 obtain⟨h1,h2,h3⟩:=OE a b p;by_cases hs:a.neg=b.neg
 .have hn:(a.neg != b.neg)=false:=by rw[hs];simp
  have e1:pq a b p=false:=by unfold pq;rw[hn];rfl
  have e2:nh a b p=nG b (jq a b p):=by unfold nh;rw[e1];simp
  have e3:lY a b p=a.m*2^(a.e-jq a b p).toNat+mN b (jq a b p):=by unfold lY;rw[aS hs];unfold nQ mL;rw[hn];simp
  have hx:lY a b p≠0:=by
   rw[e3];have:=du a0 (dJ (aZ (n:=(a.e-jq a b p).toNat) (show 0<2 by decide)));omega
  refine⟨λh=>absurd h.1 hx,λ_=>?_⟩;rw[e1,e2,e3];have:=akC ha.canon hb.canon a0 b0 h1 h2 h3 hs up;cases hA:a.neg<;>rw[hA]at this<;>exact this
 .have hn:(a.neg != b.neg)=true:=by simpa using hs
  have eY:mL a b p=mN b (jq a b p)+if nG b (jq a b p)=true then 1 else 0:=by unfold mL;rw[hn];simp
  obtain⟨r1,r2⟩:=akB (p:=p) ha.canon hb.canon a0 b0 h1 h2 h3 hs up;rw[<-eY]at r1 r2;change nQ a b p<mL a b p->_ at r1;change mL a b p<=nQ a b p->_ at r2;by_cases hc:nQ a b p<mL a b p
  .have e1:pq a b p=true:=by unfold pq;rw[hn,aT hc];rfl
   have e2:nh a b p=false:=by unfold nh;rw[e1];simp
   have e3:lY a b p=mL a b p-nQ a b p:=by unfold lY;rw[aR hs,aS hc]
   rw[e1,e2,e3];refine⟨λh=> ae,λ_=>?_⟩;have:=r1 hc;cases hA:a.neg<;>rw[hA]at this<;>exact this
  .have e1:pq a b p=false:=by unfold pq;rw[hn,aU hc];rfl
   have e2:nh a b p=nG b (jq a b p):=by unfold nh;rw[e1];simp
   have e3:lY a b p=nQ a b p-mL a b p:=by unfold lY;rw[aR hs,aR hc]
   rw[e1,e2,e3];obtain⟨q1,q2⟩:=r2 ae;refine⟨q1,λh=>?_⟩;have:=q2 h;cases hA:a.neg<;>rw[hA]at this<;>exact this
end Go.Proofs.YtkjkcjhacddojaaGreatDoor.Fp
namespace Go.Proofs.YtkjkcjhacddojaaGreatDoor
open Go.RowKit Fp
theorem aaT(a b:Nat):ie (a*b)<=ie a+ie b:=by
 rw[kR,aX];exact gp (oY a) (oY b)
theorem aj9(a:Dy)(A:Option Addr)(c:Nat)(w:World)(h:Sl w A c (gV a.m))(ha:a.ic):
 Calls prog 96 #[DV a A c] w λe w'=>e = .returned (.bool true)/\iz w w':=
 JO a.neg A c (gV a.m) a.e w true h (by have:=ha.exp;omega) (by have:=ha.exp;omega) (by simp[ha.vc])
theorem aj5(a:Dy)(A:Option Addr)(c:Nat)(w:World)(h:Sl w A c (gV a.m)):
 Calls prog 53 #[DV a A c] w λe w'=>e = .returned (.int .i64 a.iK)/\iz w w':=by
 have:=aj4 a.neg A c (gV a.m) a.e w h (tX _);rw[jC]at this;exact this
theorem aj8(a:Dy)(A:Option Addr)(c:Nat)(w:World)(h:Sl w A c (gV a.m))(ha:uX a):
 Calls prog 171 #[DV a A c] w λe w'=>e = .returned (.int .i64 a.iw)/\iz w w':=by
 have:=aj7 a.neg A c (gV a.m) a.e w h (tX _) (by have:=ha.len;omega) (by have:=ha.lo;omega) (by have:=ha.hi;omega);rw[jC]at this;exact this
theorem Hk(d:Dy)(A:Option Addr)(c:Nat)(w:World)(hs:Sl w A c (gV d.m))(hl:(gV d.m).length<=100000000)(kT:-10000000<=d.e)(kA:d.e<=10000000):
 Calls prog 254 #[DV d A c] w (tf w (kG d) (mP d)):=by
 by_cases hd:mW d
 .rw [Bl hd,Hm hd];exact QY d A c w hs hl kT kA hd
 .rw [K5 hd,Hl hd];exact abX d A c w hs hl kT kA hd
theorem K0(s:Bool)(m:Nat)(e:Int){n:Nat}(hm:(gV m).length<=n):(gV (canon s m e).m).length<=n/\e<=max (canon s m e).e e/\((canon s m e).e<=max 0 (e+32*n))/\min 0 e<=(canon s m e).e:=by
 unfold canon;by_cases h0:m=0
 .rw [aS h0];simp only[na]
  exact⟨bN _,ae,ae,ae⟩
 .rw [aR h0]
  have h1:jQ m<32*n:=by
   have h1:=DM h0;have h2:=uF hm;rw[nP]at h2;exact(gQ (ag:1<2)).1 (bR h1 h2)
  exact⟨aY (me (bD _ _)) hm,ae,by simp only;omega,by simp only;omega⟩
theorem CH(s:Bool)(m:Nat)(e:Int)(A:Option Addr)(c:Nat)(w:World)(hs:Sl w A c (gV m))(hl:(gV m).length<=256)(kT:-1000000<=e)(kA:e<=1000000)(ks:Tb w):
 Calls prog 255 #[.bool s,.slice A (gV m).length c,.int .i64 e] w (ua w (canon s m e)):=by
 have:=Hy s A c (gV m) e w hs ae (by have:=oO (gV m);unfold lZ at this;omega) kT kA ks;rw[jC]at this;exact this
theorem NI{m:Nat}(h:m=0):(((gV m).length:Int)==0)=true:=by rw[h,na];rfl
theorem JC{m:Nat}(h:m≠0):(((gV m).length:Int)==0)=false:=by
 refine aK ?_;have:gV m≠[]:=λe=>h (U3.1 e)
 have:=ek.2 this;omega
theorem acN(a b:Dy)(A B:Option Addr)(c d:Nat)(w:World)(_hs:Sl w A c (gV a.m))(hr:Sl w B d (gV b.m))(ks:Tb w)(hb:b.ic)(h0:a.m=0):
 Calls prog 303 #[DV a A c,DV b B d] w (tf w (kG (iJ a b)) (mP (iJ a b))):=by
 have y4:iJ a b=b:=by unfold iJ;rw[aS h0]
 rw[y4,Bl hb.range,Hm hb.range];have hl:=hb.len;obtain⟨kT,kA⟩:=hb.exp;have HC:=aol (λw (h:Sl w B d (gV b.m)) (ht:Tb w)=>CH b.neg b.m b.e B d w h hl ae ae ht);rw[hb.canon.CF]at HC;have n0:=NI h0;clear y4 h0;have hE:=((iz.alloc w (.cells #[.bool b.neg,.slice B ((gV b.m).length) d,.int .i64 b.e] 39)).trans (iz.alloc (w.alloc (.cells #[.bool b.neg,.slice B ((gV b.m).length) d,.int .i64 b.e] 39)) (.cells #[.bool b.neg,.slice B ((gV b.m).length) d,.int .i64 b.e] 39))).trans (iz.alloc ((w.alloc (.cells #[.bool b.neg,.slice B ((gV b.m).length) d,.int .i64 b.e] 39)).alloc (.cells #[.bool b.neg,.slice B ((gV b.m).length) d,.int .i64 b.e] 39)) (.cells #[.bool false,.slice none 0 0,.int .i64 0] 39));have b1:=((jk.pD (W:=w) (g:=w.heap.size) aj b.neg B ((gV b.m).length) d b.e).alloc (.cells #[.bool b.neg,.slice B ((gV b.m).length) d,.int .i64 b.e] 39)).alloc (.cells #[.bool false,.slice none 0 0,.int .i64 0] 39);have b2:=(jk.pD (W:=(w.alloc (.cells #[.bool b.neg,.slice B ((gV b.m).length) d,.int .i64 b.e] 39))) (g:=w.heap.size+1) aj b.neg B ((gV b.m).length) d b.e).alloc (.cells #[.bool false,.slice none 0 0,.int .i64 0] 39);have b3:=jk.pD (W:=((w.alloc (.cells #[.bool b.neg,.slice B ((gV b.m).length) d,.int .i64 b.e] 39)).alloc (.cells #[.bool b.neg,.slice B ((gV b.m).length) d,.int .i64 b.e] 39))) (g:=w.heap.size+2) aj false none 0 0 0;replace hr:=hr.below hE;replace ks:=ks.below hE;go_enter func303,ntmps303;go_wp2_with fail
 (with_reducible refine(HC.out _ hr ks).mono ?_)
 rintro r w1 ⟨A_h4,c_h4,rfl,h4,hb⟩;replace hE:=hE.trans hb;replace hr:=hr.below hb;replace ks:=ks.below hb;replace b1:=b1.ext hb;replace b2:=b2.ext hb;replace b3:=b3.ext hb;clear hb;have GJ:=b3.c0;have yb30:=b3.fr 0;have GK:=b3.c1;have yb31:=b3.fr 1;have GL:=b3.c2;have yb32:=b3.fr 2;go_wp2;exact vd (d:=b) rfl rfl rfl rfl (b3.set _ _ _ _ _) rfl (b3.qC h4 _ _ _ _ _) (jk.qo hE ae _ _ _ _ _)
theorem acO(a b:Dy)(A B:Option Addr)(c d:Nat)(w:World)(hs:Sl w A c (gV a.m))(ks:Tb w)(ha:a.ic)(h1:a.m≠0)(h0:b.m=0):
 Calls prog 303 #[DV a A c,DV b B d] w (tf w (kG (iJ a b)) (mP (iJ a b))):=by
 have y4:iJ a b=a:=by unfold iJ;rw[aR h1,aS h0]
 rw[y4,Bl ha.range,Hm ha.range];have hl:=ha.len;obtain⟨kT,kA⟩:=ha.exp;have HC:=aol (λw (h:Sl w A c (gV a.m)) (ht:Tb w)=>CH a.neg a.m a.e A c w h hl ae ae ht);rw[ha.canon.CF]at HC;have n0:=NI h0;have n1:=JC h1;clear y4 h0 h1;have hE:=((iz.alloc w (.cells #[.bool a.neg,.slice A ((gV a.m).length) c,.int .i64 a.e] 39)).trans (iz.alloc (w.alloc (.cells #[.bool a.neg,.slice A ((gV a.m).length) c,.int .i64 a.e] 39)) (.cells #[.bool b.neg,.slice B ((gV b.m).length) d,.int .i64 b.e] 39))).trans (iz.alloc ((w.alloc (.cells #[.bool a.neg,.slice A ((gV a.m).length) c,.int .i64 a.e] 39)).alloc (.cells #[.bool b.neg,.slice B ((gV b.m).length) d,.int .i64 b.e] 39)) (.cells #[.bool false,.slice none 0 0,.int .i64 0] 39));have b1:=((jk.pD (W:=w) (g:=w.heap.size) aj a.neg A ((gV a.m).length) c a.e).alloc (.cells #[.bool b.neg,.slice B ((gV b.m).length) d,.int .i64 b.e] 39)).alloc (.cells #[.bool false,.slice none 0 0,.int .i64 0] 39);have b2:=(jk.pD (W:=(w.alloc (.cells #[.bool a.neg,.slice A ((gV a.m).length) c,.int .i64 a.e] 39))) (g:=w.heap.size+1) aj b.neg B ((gV b.m).length) d b.e).alloc (.cells #[.bool false,.slice none 0 0,.int .i64 0] 39);have b3:=jk.pD (W:=((w.alloc (.cells #[.bool a.neg,.slice A ((gV a.m).length) c,.int .i64 a.e] 39)).alloc (.cells #[.bool b.neg,.slice B ((gV b.m).length) d,.int .i64 b.e] 39))) (g:=w.heap.size+2) aj false none 0 0 0;replace hs:=hs.below hE;replace ks:=ks.below hE;go_enter func303,ntmps303;go_wp2_with fail
 (with_reducible refine(HC.out _ hs ks).mono ?_)
 rintro r w1 ⟨A_h4,c_h4,rfl,h4,hb⟩;replace hE:=hE.trans hb;replace hs:=hs.below hb;replace ks:=ks.below hb;replace b1:=b1.ext hb;replace b2:=b2.ext hb;replace b3:=b3.ext hb;clear hb;have GJ:=b3.c0;have yb30:=b3.fr 0;have GK:=b3.c1;have yb31:=b3.fr 1;have GL:=b3.c2;have yb32:=b3.fr 2;go_wp2;exact vd (d:=a) rfl rfl rfl rfl (b3.set _ _ _ _ _) rfl (b3.qC h4 _ _ _ _ _) (jk.qo hE ae _ _ _ _ _)
theorem Lm(a:Dy)(A:Option Addr)(c:Nat)(w:World)(h:Sl w A c (gV a.m))(ha:a.ic):
 Calls prog 216 #[DV a A c] w λe w'=>e = .returned (.int .i64 a.iw)/\iz w w':=by
 have:=Ll a.neg A c (gV a.m) a.e w h ha.vc;rw[jC]at this;exact this
def PG(L:List Nat)(w:World)(v:Value):Prop:=∃ A c,v = .slice A L.length c/\Sl w A c L
theorem anr{fn:Func}{p t:Tmp}(h:fn.results = #[.cell p 39,.tmp t]){a:Act}{w W:World}{k:Int}{g:Nat}
 (hp:a.tmps.getD p undef = .pointer (some ⟨g,0,none⟩)) (ht:a.tmps.getD t undef = .int .i64 k) (hd:a.defers=[]) (hb:jk W g false none 0 0 0) (he:iz w W):
 bodyPost prog fn (tf w jA k) .ret a W:=
 vd (d:=jA) h hp ht hd hb (by rw[show jA.m=0 from rfl,na];rfl) (by rw[show jA.m=0 from rfl,na];exact Sl.nil _) he
set_option maxRecDepth 100000 in
set_option maxHeartbeats 8000000 in
theorem acP(a b:Dy)(A B:Option Addr)(c d:Nat)(w:World)(hs:Sl w A c (gV a.m))(hr:Sl w B d (gV b.m))(ks:Tb w)(ha:a.ic)(hb:b.ic)(a0:a.m≠0)(b0:b.m≠0):
  Calls prog 303 #[DV a A c,DV b B d] w (tf w (kG (iJ a b)) (mP (iJ a b))):=by
 have n1:=JC a0;have n2:=JC b0;have la:=ha.len;have lb:=hb.len;obtain⟨ea1,ea2⟩:=ha.exp;obtain⟨eb1,eb2⟩:=hb.exp;obtain⟨k,hk⟩:∃ k,min a.e b.e=k:=⟨_,rfl⟩
 have TF:k<=a.e:= ae ;have TG:k<=b.e:= ae ;have oz:-16384<=k:= ae ;have sV:k<=16384:= ae ;have HTa:=aol (λw (h:Sl w A c (gV a.m))=>Lm a A c w h ha);have HTb:=aol (λw (h:Sl w B d (gV b.m))=>Lm b B d w h hb);have HBIG:=aol (λh1 h2=>alD ha hb a0 b0 hk h1 h2);have HFIT:=aol (λh=>alF ha hb a0 b0 hk h);have HS1:=aol (λ(h:a.neg=b.neg)=>show iJ a b=canon a.neg (a.m*2^(a.e-k).toNat+b.m*2^(b.e-k).toNat) k from by
  have:=Ys (s:=a.neg) a0 b0 hk;rw[<-this,show(⟨a.neg,b.m,b.e⟩:Dy)=b by rw[h]])
 have HS2:=aol (λ(h:a.neg≠b.neg) (pX:b.m*2^(b.e-k).toNat<=a.m*2^(a.e-k).toNat)=>Yq a0 b0 hk h pX);have HS3:=aol (λ(h:a.neg≠b.neg) (pX:a.m*2^(a.e-k).toNat<b.m*2^(b.e-k).toNat)=>Yr a0 b0 hk h pX);have Dk:-16384<=a.iw/\a.iw<=16384:=by unfold Dy.iw;rw[aR a0];have:=ha.YO a0;omega
 have htb:-16384<=b.iw/\b.iw<=16384:=by unfold Dy.iw;rw[aR b0];have:=hb.YO b0;omega
 obtain⟨anE,anF⟩:=Dk;obtain⟨anG,anH⟩:=htb;obtain⟨S,hS⟩:∃ S,iJ a b=S:=⟨_,rfl⟩
 rw[hS]at HBIG HS1 ⊢;have HS2:=aol (λh h'=>hS▸HS2.out h h');have HS3:=aol (λh h'=>hS▸HS3.out h h');have HXa:=aol (λw (h:Sl w A c (gV a.m)) (hf:(gV (a.m*2^(a.e-k).toNat)).length<=256)=>J0 A c (gV a.m) (a.e-k) w h la ae ae (by rw[jC];exact hf));have HXb:=aol (λw (h:Sl w B d (gV b.m)) (hf:(gV (b.m*2^(b.e-k).toNat)).length<=256)=>J0 B d (gV b.m) (b.e-k) w h lb ae ae (by rw[jC];exact hf));rw[jC]at HXa HXb;generalize a.m*2^(a.e-k).toNat=x at *
 generalize b.m*2^(b.e-k).toNat=y at *
 generalize a.iw=ta at *
 generalize b.iw=tb at *
 obtain⟨mx,TN⟩:∃ mx,max ta tb=mx:=⟨_,rfl⟩
 have IN:-16384<=mx/\mx<=16384:= ae ;obtain⟨IN,vD⟩:=IN;rw[TN]at HBIG HFIT;have ae5:=ks;have uy:=hs;have wX:=hr;clear a0 b0 hS;have hE:=((iz.alloc w (.cells #[.bool a.neg,.slice A ((gV a.m).length) c,.int .i64 a.e] 39)).trans (iz.alloc (w.alloc (.cells #[.bool a.neg,.slice A ((gV a.m).length) c,.int .i64 a.e] 39)) (.cells #[.bool b.neg,.slice B ((gV b.m).length) d,.int .i64 b.e] 39))).trans (iz.alloc ((w.alloc (.cells #[.bool a.neg,.slice A ((gV a.m).length) c,.int .i64 a.e] 39)).alloc (.cells #[.bool b.neg,.slice B ((gV b.m).length) d,.int .i64 b.e] 39)) (.cells #[.bool false,.slice none 0 0,.int .i64 0] 39));have b1:=((jk.pD (W:=w) (g:=w.heap.size) aj a.neg A ((gV a.m).length) c a.e).alloc (.cells #[.bool b.neg,.slice B ((gV b.m).length) d,.int .i64 b.e] 39)).alloc (.cells #[.bool false,.slice none 0 0,.int .i64 0] 39);have b2:=(jk.pD (W:=(w.alloc (.cells #[.bool a.neg,.slice A ((gV a.m).length) c,.int .i64 a.e] 39))) (g:=w.heap.size+1) aj b.neg B ((gV b.m).length) d b.e).alloc (.cells #[.bool false,.slice none 0 0,.int .i64 0] 39);have b3:=jk.pD (W:=((w.alloc (.cells #[.bool a.neg,.slice A ((gV a.m).length) c,.int .i64 a.e] 39)).alloc (.cells #[.bool b.neg,.slice B ((gV b.m).length) d,.int .i64 b.e] 39))) (g:=w.heap.size+2) aj false none 0 0 0;replace hs:=hs.below hE;replace hr:=hr.below hE;replace ks:=ks.below hE;go_enter func303,ntmps303;have nX:=b1.c0;have nY:=b1.c1;have nZ:=b1.c2
 have sI:=b2.c0;have sJ:=b2.c1;have sK:=b2.c2;go_upto_region 6 with fail;clear nX nY nZ sI sJ sK;obtain⟨W1,hW⟩:∃ W,(((w.alloc (.cells #[.bool a.neg,.slice A ((gV a.m).length) c,.int .i64 a.e] 39)).alloc (.cells #[.bool b.neg,.slice B ((gV b.m).length) d,.int .i64 b.e] 39)).alloc (.cells #[.bool false,.slice none 0 0,.int .i64 0] 39))=W:=⟨_,rfl⟩
 rw[hW]at hs hr ks b1 b2 b3 hE ⊢;clear hW;go_cut [7,8] (λs0 s1 wx=>s0=(.int .i64 ta)/\s1=(.int .i64 tb)/\iz W1 wx)
 case first=>
  have b1':=b1.drew;have b2':=b2.drew;have mR:=hs.drew;have rU:=hr.drew;go_region_held3 (λw'=>w'.cell? ⟨w.heap.size,0,none⟩=some (.bool a.neg)/\w'.cell? ⟨w.heap.size,1,none⟩=some (.slice A ((gV a.m).length) c)/\w'.cell? ⟨w.heap.size,2,none⟩=some (.int .i64 a.e)/\w'.cell? ⟨w.heap.size+1,0,none⟩=some (.bool b.neg)/\w'.cell? ⟨w.heap.size+1,1,none⟩=some (.slice B ((gV b.m).length) d)/\w'.cell? ⟨w.heap.size+1,2,none⟩=some (.int .i64 b.e))
   (first|with_reducible exact⟨(b1').c0,(b1').c1,(b1').c2,(b2').c0,(b2').c1,(b2').c2⟩|with_reducible exact⟨(b1'.ext jK).c0,(b1'.ext jK).c1,(b1'.ext jK).c2,(b2'.ext jK).c0,(b2'.ext jK).c1,(b2'.ext jK).c2⟩|with_reducible exact⟨(b1'.ext jb).c0,(b1'.ext jb).c1,(b1'.ext jb).c2,(b2'.ext jb).c0,(b2'.ext jb).c1,(b2'.ext jb).c2⟩|with_reducible exact⟨(b1'.ext (jK.trans jb)).c0,(b1'.ext (jK.trans jb)).c1,(b1'.ext (jK.trans jb)).c2,(b2'.ext (jK.trans jb)).c0,(b2'.ext (jK.trans jb)).c1,(b2'.ext (jK.trans jb)).c2⟩|with_reducible exact⟨(b1'.ext (jb.trans jK)).c0,(b1'.ext (jb.trans jK)).c1,(b1'.ext (jb.trans jK)).c2,(b2'.ext (jb.trans jK)).c0,(b2'.ext (jb.trans jK)).c1,(b2'.ext (jb.trans jK)).c2⟩)
   (first
    | (go_at_call_of 216 (Value.agg #[.bool a.neg,.slice A (gV a.m).length c,.int .i64 a.e]);(first|(with_reducible refine(HTa.out _ mR).mono ?_)|(with_reducible refine(HTa.out _ (mR.below jb)).mono ?_));rintro r wx0 ⟨rfl,jK⟩)
    | (go_at_call_of 216 (Value.agg #[.bool b.neg,.slice B (gV b.m).length d,.int .i64 b.e]);(first|(with_reducible refine(HTb.out _ rU).mono ?_)|(with_reducible refine(HTb.out _ (rU.below jK)).mono ?_));rintro r wx1 ⟨rfl,jb⟩))
  all_goals (go_wp2_with fail;go_meet;(first|exact⟨rfl,rfl,(iz.drew _).trans (jK.trans jb)⟩|exact⟨rfl,rfl,(iz.drew _).trans (jb.trans jK)⟩))
 obtain⟨rfl,rfl,hb⟩:=hcut;replace hE:=hE.trans hb;replace hs:=hs.below hb;replace hr:=hr.below hb;replace ks:=ks.below hb;replace b1:=b1.ext hb;replace b2:=b2.ext hb;replace b3:=b3.ext hb;clear hb;go_upto_region 7 with fail;go_cut [63] (λs wx=>s = .bool (decide (4097<mx-k/\(1<ta-tb\/1<tb-ta)))/\wx=wc)
 case first=>
  by_cases c1:4097<mx-k
  .by_cases c2:1<ta-tb
   .go_wp2
    go_meet;exact⟨congrArg Value.bool (aT ⟨c1,.inl c2⟩).symm,rfl⟩
   .by_cases c3:1<tb-ta
    .go_wp2
     go_meet;exact⟨congrArg Value.bool (aT ⟨c1,.inr c3⟩).symm,rfl⟩
    .go_wp2
     go_meet;exact⟨congrArg Value.bool (aU ae).symm,rfl⟩
  .go_wp2
   go_meet;exact⟨congrArg Value.bool (aU ae).symm,rfl⟩
 obtain⟨rfl,hwc⟩:=hcut;subst hwc;by_cases hB:4097<mx-k/\(1<ta-tb\/1<tb-ta)
 .have hd:decide (4097<mx-k/\(1<ta-tb\/1<tb-ta))=true:=aT hB
  have lH:=aol (HBIG.out hB.1 hB.2);rw[hd];clear hB hd;have GJ:=b3.c0;have yb30:=b3.fr 0;have GK:=b3.c1;have yb31:=b3.fr 1;have GL:=b3.c2;have yb32:=b3.fr 2;go_wp2;rw[K5 lH.out,Hl lH.out];exact anr rfl rfl rfl rfl (b3.set _ _ _ _ _) (jk.qo hE ae _ _ _ _ _)
 .have hd:decide (4097<mx-k/\(1<ta-tb\/1<tb-ta))=false:=aU hB
  obtain⟨xd,MV⟩:=HFIT.out hB;have HXY:=aol (FB (k:=129) (aY (aaR xd MV) ag));have ri:=FB (k:=129) (aY xd ag);have I7:=FB (k:=129) (aY MV ag);have HXa2:=aol (λw h=>HXa.out w h ae);have HXb2:=aol (λw h=>HXb.out w h ae);rw[hd];clear hB hd xd MV TN HBIG HFIT HXa HXb HTa HTb;have MT:IntKind.i64.wrap (a.e-k)=a.e-k:=i64_in _ ae ae;have hwf:IntKind.i64.wrap (b.e-k)=b.e-k:=i64_in _ ae ae;have nX:=b1.c0;have nY:=b1.c1;have nZ:=b1.c2;have sI:=b2.c0;have sJ:=b2.c1;have sK:=b2.c2;go_upto_region 9 with fail;clear nX nY nZ sI sJ sK;go_cut [9,10] (λs0 s1 wx=>PG ((gV x)) wx s0/\PG ((gV y)) wx s1/\iz wc wx)
  case first=>
   have b1':=b1.drew;have b2':=b2.drew;have mR:=hs.drew;have rU:=hr.drew;go_region_held3 (λw'=>w'.cell? ⟨w.heap.size,0,none⟩=some (.bool a.neg)/\w'.cell? ⟨w.heap.size,1,none⟩=some (.slice A ((gV a.m).length) c)/\w'.cell? ⟨w.heap.size,2,none⟩=some (.int .i64 a.e)/\w'.cell? ⟨w.heap.size+1,0,none⟩=some (.bool b.neg)/\w'.cell? ⟨w.heap.size+1,1,none⟩=some (.slice B ((gV b.m).length) d)/\w'.cell? ⟨w.heap.size+1,2,none⟩=some (.int .i64 b.e))
    (first|with_reducible exact⟨(b1').c0,(b1').c1,(b1').c2,(b2').c0,(b2').c1,(b2').c2⟩|with_reducible exact⟨(b1'.ext jK).c0,(b1'.ext jK).c1,(b1'.ext jK).c2,(b2'.ext jK).c0,(b2'.ext jK).c1,(b2'.ext jK).c2⟩|with_reducible exact⟨(b1'.ext jb).c0,(b1'.ext jb).c1,(b1'.ext jb).c2,(b2'.ext jb).c0,(b2'.ext jb).c1,(b2'.ext jb).c2⟩|with_reducible exact⟨(b1'.ext (jK.trans jb)).c0,(b1'.ext (jK.trans jb)).c1,(b1'.ext (jK.trans jb)).c2,(b2'.ext (jK.trans jb)).c0,(b2'.ext (jK.trans jb)).c1,(b2'.ext (jK.trans jb)).c2⟩|with_reducible exact⟨(b1'.ext (jb.trans jK)).c0,(b1'.ext (jb.trans jK)).c1,(b1'.ext (jb.trans jK)).c2,(b2'.ext (jb.trans jK)).c0,(b2'.ext (jb.trans jK)).c1,(b2'.ext (jb.trans jK)).c2⟩)
    (first
     | (go_at_call_of 266 (Value.slice A (gV a.m).length c);(first|(with_reducible refine(HXa2.out _ mR).mono ?_)|(with_reducible refine(HXa2.out _ (mR.below jb)).mono ?_));rintro r wx0 ⟨A0,c0,rfl,pO,jK⟩)
     | (go_at_call_of 266 (Value.slice B (gV b.m).length d);(first|(with_reducible refine(HXb2.out _ rU).mono ?_)|(with_reducible refine(HXb2.out _ (rU.below jK)).mono ?_));rintro r wx1 ⟨A1,c1,rfl,rS,jb⟩))
   all_goals (go_wp2_with fail;go_meet;(first|exact⟨⟨_,_,rfl,pO.below jb⟩,⟨_,_,rfl,rS⟩,(iz.drew _).trans (jK.trans jb)⟩|exact⟨⟨_,_,rfl,pO⟩,⟨_,_,rfl,rS.below jK⟩,(iz.drew _).trans (jb.trans jK)⟩))
  obtain⟨⟨A_hx,c_hx,rfl,hx⟩,⟨A_hy,c_hy,rfl,hy⟩,hb⟩:=hcut;replace hE:=hE.trans hb;replace hs:=hs.below hb;replace hr:=hr.below hb;replace ks:=ks.below hb;replace b1:=b1.ext hb;replace b2:=b2.ext hb;replace b3:=b3.ext hb;clear hb;have HA:=aol (λw A c B d (h:Sl w A c (gV x)) (k:Sl w B d (gV y))=>VE A B c d (gV x) (gV y) w h k ae ae (by rw[jC,jC];exact aY HXY.out ag));rw[jC,jC]at HA;by_cases hn:a.neg=b.neg
  .have e1:(a.neg==b.neg)=true:=by rw[hn];exact beq_self_eq_true _
   have hD:=aol (HS1.out hn);have HO:=aol (λw A c (h:Sl w A c (gV (x+y))) (ht:Tb w)=>CH a.neg (x+y) k A c w h (aY HXY.out ag) ae ae ht);clear hn;have Bz:=K0 a.neg (x+y) k HXY.out;have HK:=aol (λw A c (h:Sl w A c (gV (canon a.neg (x+y) k).m))=>Hk (canon a.neg (x+y) k) A c w h ae ae ae);generalize canon a.neg (x+y) k=D at *
   clear Bz HS1 HS2 HS3;have nX:=b1.c0;have nY:=b1.c1;have nZ:=b1.c2;have sI:=b2.c0;have sJ:=b2.c1;have sK:=b2.c2;go_wp2_with fail
   (with_reducible refine(HA.out _ _ _ _ _ hx hy).mono ?_)
   rintro r w2 ⟨A3,c3,rfl,h3,hb⟩;clear nX nY nZ sI sJ sK;replace hE:=hE.trans hb;replace hs:=hs.below hb;replace hr:=hr.below hb;replace ks:=ks.below hb;replace hx:=hx.below hb;replace hy:=hy.below hb;replace b1:=b1.ext hb;replace b2:=b2.ext hb;replace b3:=b3.ext hb;clear hb;have nX:=b1.c0;have nY:=b1.c1;have nZ:=b1.c2;go_wp2_with fail
   (with_reducible refine(HO.out _ _ _ h3 ks).mono ?_)
   rintro r w3 ⟨A_h4,c_h4,rfl,h4,hb⟩;clear nX nY nZ;replace hE:=hE.trans hb;replace hs:=hs.below hb;replace hr:=hr.below hb;replace ks:=ks.below hb;replace hx:=hx.below hb;replace hy:=hy.below hb;replace h3:=h3.below hb;replace b1:=b1.ext hb;replace b2:=b2.ext hb;replace b3:=b3.ext hb;clear hb;have nX:=b1.c0;have nY:=b1.c1;have nZ:=b1.c2;go_wp2_with fail
   (with_reducible refine(HK.out _ _ _ h4).mono ?_)
   rintro r w4 ⟨A_h5,c_h5,rfl,h5,hb⟩;clear nX nY nZ;replace hE:=hE.trans hb;replace hs:=hs.below hb;replace hr:=hr.below hb;replace ks:=ks.below hb;replace hx:=hx.below hb;replace hy:=hy.below hb;replace h3:=h3.below hb;replace h4:=h4.below hb;replace b1:=b1.ext hb;replace b2:=b2.ext hb;replace b3:=b3.ext hb;clear hb;have GJ:=b3.c0;have yb30:=b3.fr 0;have GK:=b3.c1;have yb31:=b3.fr 1;have GL:=b3.c2;have yb32:=b3.fr 2;go_wp2;rw[hD.out];exact vd (d:=(kG D)) rfl rfl rfl rfl (b3.set _ _ _ _ _) rfl (b3.qC h5 _ _ _ _ _) (jk.qo hE ae _ _ _ _ _)
  .have e1:(a.neg==b.neg)=false:=aK hn
   have HC:=aol (λw A c B d (h:Sl w A c (gV x)) (k:Sl w B d (gV y))=>FN A B c d (gV x) (gV y) w h k ae ae);rw[jC,jC]at HC;by_cases iE:x<y
   .have hD:=aol (HS3.out hn iE)
    have d0:decide (kf x y<0)=true:=by unfold kf;rw[aS iE];rfl
    have HSb:=aol (λw A c B d (h:Sl w A c (gV y)) (k:Sl w B d (gV x))=>NG A B c d (gV y) (gV x) w h k ae ae (by rw[jC,jC];omega));rw[jC,jC]at HSb;have Dq:=aY (me (dm y x)) I7;have HO:=aol (λw A c (h:Sl w A c (gV (y-x))) (ht:Tb w)=>CH b.neg (y-x) k A c w h ae ae ae ht);have Bz:=K0 b.neg (y-x) k Dq;have HK:=aol (λw A c (h:Sl w A c (gV (canon b.neg (y-x) k).m))=>Hk (canon b.neg (y-x) k) A c w h ae ae ae);generalize canon b.neg (y-x) k=D at *
    generalize kf x y=q at *
    clear Bz HS1 HS2 HS3 hn iE Dq HA;have nX:=b1.c0;have nY:=b1.c1;have nZ:=b1.c2;have sI:=b2.c0;have sJ:=b2.c1;have sK:=b2.c2;go_wp2_with fail
    (with_reducible refine(HC.out _ _ _ _ _ hx hy).mono ?_)
    rintro r w2 ⟨rfl,hb⟩;clear nX nY nZ sI sJ sK;replace hE:=hE.trans hb;replace hs:=hs.below hb;replace hr:=hr.below hb;replace ks:=ks.below hb;replace hx:=hx.below hb;replace hy:=hy.below hb;replace b1:=b1.ext hb;replace b2:=b2.ext hb;replace b3:=b3.ext hb;clear hb;have BC:w.heap.size<=w.heap.size:=aV _;have nX:=b1.c0;have nY:=b1.c1;have nZ:=b1.c2;have sI:=b2.c0;have sJ:=b2.c1;have sK:=b2.c2;have fb0:=b1.fr 0;have fb1:=b1.fr 1;have fb2:=b1.fr 2;have hx:=b1.qC hx b.neg b.e (gV b.m).length d B;have hy:=b1.qC hy b.neg b.e (gV b.m).length d B;have hE:=jk.qo hE (aV _) b.neg B (gV b.m).length d b.e;have b3:=b3.xz (g':=w.heap.size) ae (.bool b.neg) (.slice B (gV b.m).length d) (.int .i64 b.e);have b1:=b1.set b.neg B (gV b.m).length d b.e;have ks:=ae5.below hE;clear hs hr b2;go_wp2_with fail
    (with_reducible refine(HSb.out _ _ _ _ _ hy hx).mono ?_)
    rintro r w3 ⟨A3,c3,rfl,h3,hb⟩;clear nX nY nZ sI sJ sK;replace hE:=hE.trans hb;replace ks:=ks.below hb;replace hx:=hx.below hb;replace hy:=hy.below hb;replace b1:=b1.ext hb;replace b3:=b3.ext hb;clear hb;have nX:=b1.c0;have nY:=b1.c1;have nZ:=b1.c2;go_wp2_with fail
    (with_reducible refine(HO.out _ _ _ h3 ks).mono ?_)
    rintro r w4 ⟨A_h4,c_h4,rfl,h4,hb⟩;clear nX nY nZ;replace hE:=hE.trans hb;replace ks:=ks.below hb;replace hx:=hx.below hb;replace hy:=hy.below hb;replace h3:=h3.below hb;replace b1:=b1.ext hb;replace b3:=b3.ext hb;clear hb;have nX:=b1.c0;have nY:=b1.c1;have nZ:=b1.c2;go_wp2_with fail
    (with_reducible refine(HK.out _ _ _ h4).mono ?_)
    rintro r w5 ⟨A_h5,c_h5,rfl,h5,hb⟩;clear nX nY nZ;replace hE:=hE.trans hb;replace ks:=ks.below hb;replace hx:=hx.below hb;replace hy:=hy.below hb;replace h3:=h3.below hb;replace h4:=h4.below hb;replace b1:=b1.ext hb;replace b3:=b3.ext hb;clear hb;have GJ:=b3.c0;have yb30:=b3.fr 0;have GK:=b3.c1;have yb31:=b3.fr 1;have GL:=b3.c2;have yb32:=b3.fr 2;go_wp2;rw[hD.out];exact vd (d:=(kG D)) rfl rfl rfl rfl (b3.set _ _ _ _ _) rfl (b3.qC h5 _ _ _ _ _) (jk.qo hE ae _ _ _ _ _)
   .have hD:=aol (HS2.out hn ae)
    have d0:decide (kf x y<0)=false:=by unfold kf;rw[aR iE];split<;>rfl
    have HSb:=aol (λw A c B d (h:Sl w A c (gV x)) (k:Sl w B d (gV y))=>NG A B c d (gV x) (gV y) w h k ae ae (by rw[jC,jC];omega));rw[jC,jC]at HSb;have Dq:=aY (me (dm x y)) ri;have HO:=aol (λw A c (h:Sl w A c (gV (x-y))) (ht:Tb w)=>CH a.neg (x-y) k A c w h ae ae ae ht);have Bz:=K0 a.neg (x-y) k Dq;have HK:=aol (λw A c (h:Sl w A c (gV (canon a.neg (x-y) k).m))=>Hk (canon a.neg (x-y) k) A c w h ae ae ae);generalize canon a.neg (x-y) k=D at *
    generalize kf x y=q at *
    clear Bz HS1 HS2 HS3 hn iE Dq HA;have nX:=b1.c0;have nY:=b1.c1;have nZ:=b1.c2;have sI:=b2.c0;have sJ:=b2.c1;have sK:=b2.c2;go_wp2_with fail
    (with_reducible refine(HC.out _ _ _ _ _ hx hy).mono ?_)
    rintro r w2 ⟨rfl,hb⟩;clear nX nY nZ sI sJ sK;replace hE:=hE.trans hb;replace hs:=hs.below hb;replace hr:=hr.below hb;replace ks:=ks.below hb;replace hx:=hx.below hb;replace hy:=hy.below hb;replace b1:=b1.ext hb;replace b2:=b2.ext hb;replace b3:=b3.ext hb;clear hb;go_wp2_with fail
    (with_reducible refine(HSb.out _ _ _ _ _ hx hy).mono ?_)
    rintro r w3 ⟨A3,c3,rfl,h3,hb⟩;replace hE:=hE.trans hb;replace hs:=hs.below hb;replace hr:=hr.below hb;replace ks:=ks.below hb;replace hx:=hx.below hb;replace hy:=hy.below hb;replace b1:=b1.ext hb;replace b2:=b2.ext hb;replace b3:=b3.ext hb;clear hb;have nX:=b1.c0;have nY:=b1.c1;have nZ:=b1.c2;go_wp2_with fail
    (with_reducible refine(HO.out _ _ _ h3 ks).mono ?_)
    rintro r w4 ⟨A_h4,c_h4,rfl,h4,hb⟩;clear nX nY nZ;replace hE:=hE.trans hb;replace hs:=hs.below hb;replace hr:=hr.below hb;replace ks:=ks.below hb;replace hx:=hx.below hb;replace hy:=hy.below hb;replace h3:=h3.below hb;replace b1:=b1.ext hb;replace b2:=b2.ext hb;replace b3:=b3.ext hb;clear hb;have nX:=b1.c0;have nY:=b1.c1;have nZ:=b1.c2;go_wp2_with fail
    (with_reducible refine(HK.out _ _ _ h4).mono ?_)
    rintro r w5 ⟨A_h5,c_h5,rfl,h5,hb⟩;clear nX nY nZ;replace hE:=hE.trans hb;replace hs:=hs.below hb;replace hr:=hr.below hb;replace ks:=ks.below hb;replace hx:=hx.below hb;replace hy:=hy.below hb;replace h3:=h3.below hb;replace h4:=h4.below hb;replace b1:=b1.ext hb;replace b2:=b2.ext hb;replace b3:=b3.ext hb;clear hb;have GJ:=b3.c0;have yb30:=b3.fr 0;have GK:=b3.c1;have yb31:=b3.fr 1;have GL:=b3.c2;have yb32:=b3.fr 2;go_wp2;rw[hD.out];exact vd (d:=(kG D)) rfl rfl rfl rfl (b3.set _ _ _ _ _) rfl (b3.qC h5 _ _ _ _ _) (jk.qo hE ae _ _ _ _ _)
theorem RM(a b:Dy)(A B:Option Addr)(c d:Nat)(w:World)(hs:Sl w A c (gV a.m))(hr:Sl w B d (gV b.m))(ks:Tb w)(ha:a.ic)(hb:b.ic):
 Calls prog 303 #[DV a A c,DV b B d] w (tf w (kG (iJ a b)) (mP (iJ a b))):=by
 by_cases a0:a.m=0
 .exact acN a b A B c d w hs hr ks hb a0
 .by_cases b0:b.m=0
  .exact acO a b A B c d w hs ks ha a0 b0
  .exact acP a b A B c d w hs hr ks ha hb a0 b0
theorem RJ(a : Dy)(A : Option Addr)(c : Nat)(w : World)(hs : Sl w A c (gV a.m))(ha : a.ic):
    Calls prog 166 #[DV a A c] w (ua w (iF a)) := by
  have HV := aol (λw (h : Sl w A c (gV a.m)) => HW a A c w h ha);have hl := ha.len;by_cases h0 : a.m=0
  . have hz : Hid (iF a=jA) := by
      show iF a=jA;obtain⟨s,m,e⟩ := a;rcases ha.canon with⟨h1,h2,h3⟩|h1
      . simp only at h1 h2 h3;subst h1 h2 h3;rfl
      . simp only at h0 h1;omega
    have n0 := NI h0;clear h0;have hE := (iz.alloc w (.cells #[.bool a.neg,.slice A ((gV a.m).length) c,.int .i64 a.e] 39)).trans (iz.alloc (w.alloc (.cells #[.bool a.neg,.slice A ((gV a.m).length) c,.int .i64 a.e] 39)) (.cells #[.bool false,.slice none 0 0,.int .i64 0] 39));have b1 := (jk.pD (W := w) (g := w.heap.size) aj a.neg A ((gV a.m).length) c a.e).alloc (.cells #[.bool false,.slice none 0 0,.int .i64 0] 39);have b2 := jk.pD (W := (w.alloc (.cells #[.bool a.neg,.slice A ((gV a.m).length) c,.int .i64 a.e] 39))) (g := w.heap.size+1) aj false none 0 0 0;replace hs := hs.below hE;go_enter func166,ntmps166;go_wp2_with fail
    (with_reducible refine(HV.out _ hs).mono ?_)
    rintro r w1 ⟨rfl,hb⟩;replace hE := hE.trans hb;replace hs := hs.below hb;replace b1 := b1.ext hb;replace b2 := b2.ext hb;clear hb;have nX := b1.c0;have nY := b1.c1;have nZ := b1.c2;have sI := b2.c0;have yb20 := b2.fr 0;have sJ := b2.c1;have yb21 := b2.fr 1;have sK := b2.c2;have yb22 := b2.fr 2;go_wp2;rw[hz.out];exact sP (d := jA) rfl rfl rfl (b2.set _ _ _ _ _) (by rw[show jA.m=0 from rfl,na];rfl) (by rw[show jA.m=0 from rfl,na];exact Sl.nil _) (jk.qo hE ae _ _ _ _ _)
  . have n0 := JC h0
    have HN := aol (show iF a=⟨!a.neg,a.m,a.e⟩by unfold iF;simp[h0]);have HC := aol (λw (h : Sl w A c (gV a.m)) => K7 A c (gV a.m) w h ae);clear h0;have hE := (iz.alloc w (.cells #[.bool a.neg,.slice A ((gV a.m).length) c,.int .i64 a.e] 39)).trans (iz.alloc (w.alloc (.cells #[.bool a.neg,.slice A ((gV a.m).length) c,.int .i64 a.e] 39)) (.cells #[.bool false,.slice none 0 0,.int .i64 0] 39));have b1 := (jk.pD (W := w) (g := w.heap.size) aj a.neg A ((gV a.m).length) c a.e).alloc (.cells #[.bool false,.slice none 0 0,.int .i64 0] 39);have b2 := jk.pD (W := (w.alloc (.cells #[.bool a.neg,.slice A ((gV a.m).length) c,.int .i64 a.e] 39))) (g := w.heap.size+1) aj false none 0 0 0;replace hs := hs.below hE;go_enter func166,ntmps166;go_wp2_with fail
    (with_reducible refine(HV.out _ hs).mono ?_)
    rintro r w1 ⟨rfl,hb⟩;replace hE := hE.trans hb;replace hs := hs.below hb;replace b1 := b1.ext hb;replace b2 := b2.ext hb;clear hb;have nX := b1.c0;have nY := b1.c1;have nZ := b1.c2;clear nX nY nZ;have nX := b1.c0;have nY := b1.c1;have nZ := b1.c2;go_wp2_with fail;clear nX nY nZ;replace hs := hs.drew;replace b1 := b1.drew;replace b2 := b2.drew;replace hE := hE.trans (iz.drew _);go_region_held3 (λw' => w'.cell? ⟨w.heap.size,0,none⟩=some (.bool a.neg)/\w'.cell? ⟨w.heap.size,1,none⟩=some (.slice A ((gV a.m).length) c)/\w'.cell? ⟨w.heap.size,2,none⟩=some (.int .i64 a.e))
      (first|with_reducible exact⟨(b1).c0,(b1).c1,(b1).c2⟩|with_reducible exact⟨(b1.ext jK).c0,(b1.ext jK).c1,(b1.ext jK).c2⟩|with_reducible exact⟨((b1.ext jK).xz (g' := w.heap.size+1) ae _ _ _).c0,((b1.ext jK).xz (g' := w.heap.size+1) ae _ _ _).c1,((b1.ext jK).xz (g' := w.heap.size+1) ae _ _ _).c2⟩)
      (first
        | (go_at_call 244
           (with_reducible refine(HC.out _ hs).mono ?_)
           rintro r wx0 ⟨A_h4,c_h4,rfl,h4,jK⟩;have bz := b2.ext jK;have z0 := bz.c0;have z1 := bz.c1;have z2 := bz.c2;have y0 := bz.fr 0;have y1 := bz.fr 1;have y2 := bz.fr 2))
    replace hE := hE.trans jK;replace hs := hs.below jK;replace b1 := b1.ext jK;replace b2 := b2.ext jK;go_wp2;rw[HN.out];exact sP (d := ⟨!a.neg,a.m,a.e⟩) rfl rfl rfl (bz.set _ _ _ _ _) rfl (bz.qC h4 _ _ _ _ _) (jk.qo hE ae _ _ _ _ _)
theorem acM(a b : Dy)(A B : Option Addr)(c d : Nat)(w : World)(hs : Sl w A c (gV a.m))(hr : Sl w B d (gV b.m))(ks : Tb w)(ha : a.ic)(hb : b.ic):
    Calls prog 256 #[DV a A c,DV b B d] w (tf w (kG (iJ a (iF b))) (mP (iJ a (iF b)))) := by
  have HVa := aol (λw (h : Sl w A c (gV a.m)) => HW a A c w h ha);have HVb := aol (λw (h : Sl w B d (gV b.m)) => HW b B d w h hb);have HN := aol (λw (h : Sl w B d (gV b.m)) => RJ b B d w h hb);have HS := aol (λw B d (h : Sl w A c (gV a.m)) (k : Sl w B d (gV (iF b).m)) (ht : Tb w) => RM a (iF b) A B c d w h k ht ha (qA hb));generalize mP (iJ a (iF b))=E at *
  generalize kG (iJ a (iF b))=D at *
  generalize iF b=nb at *
  have hE := ((iz.alloc w (.cells #[.bool a.neg,.slice A ((gV a.m).length) c,.int .i64 a.e] 39)).trans (iz.alloc (w.alloc (.cells #[.bool a.neg,.slice A ((gV a.m).length) c,.int .i64 a.e] 39)) (.cells #[.bool b.neg,.slice B ((gV b.m).length) d,.int .i64 b.e] 39))).trans (iz.alloc ((w.alloc (.cells #[.bool a.neg,.slice A ((gV a.m).length) c,.int .i64 a.e] 39)).alloc (.cells #[.bool b.neg,.slice B ((gV b.m).length) d,.int .i64 b.e] 39)) (.cells #[.bool false,.slice none 0 0,.int .i64 0] 39));have b1 := ((jk.pD (W := w) (g := w.heap.size) aj a.neg A ((gV a.m).length) c a.e).alloc (.cells #[.bool b.neg,.slice B ((gV b.m).length) d,.int .i64 b.e] 39)).alloc (.cells #[.bool false,.slice none 0 0,.int .i64 0] 39);have b2 := (jk.pD (W := (w.alloc (.cells #[.bool a.neg,.slice A ((gV a.m).length) c,.int .i64 a.e] 39))) (g := w.heap.size+1) aj b.neg B ((gV b.m).length) d b.e).alloc (.cells #[.bool false,.slice none 0 0,.int .i64 0] 39);have b3 := jk.pD (W := ((w.alloc (.cells #[.bool a.neg,.slice A ((gV a.m).length) c,.int .i64 a.e] 39)).alloc (.cells #[.bool b.neg,.slice B ((gV b.m).length) d,.int .i64 b.e] 39))) (g := w.heap.size+2) aj false none 0 0 0;replace hs := hs.below hE;replace hr := hr.below hE;replace ks := ks.below hE;go_enter func256,ntmps256;go_wp2_with fail
  (with_reducible refine(HVa.out _ hs).mono ?_)
  rintro r w1 ⟨rfl,hb⟩;replace hE := hE.trans hb;replace hs := hs.below hb;replace hr := hr.below hb;replace ks := ks.below hb;replace b1 := b1.ext hb;replace b2 := b2.ext hb;replace b3 := b3.ext hb;clear hb;have nX := b1.c0;have nY := b1.c1;have nZ := b1.c2;have sI := b2.c0;have sJ := b2.c1;have sK := b2.c2;go_wp2_with fail
  (with_reducible refine(HVb.out _ hr).mono ?_)
  rintro r w2 ⟨rfl,hb⟩;clear nX nY nZ sI sJ sK;replace hE := hE.trans hb;replace hs := hs.below hb;replace hr := hr.below hb;replace ks := ks.below hb;replace b1 := b1.ext hb;replace b2 := b2.ext hb;replace b3 := b3.ext hb;clear hb;have nX := b1.c0;have nY := b1.c1;have nZ := b1.c2;have sI := b2.c0;have sJ := b2.c1;have sK := b2.c2;go_wp2_with fail;clear nX nY nZ sI sJ sK;replace hs := hs.drew;replace hr := hr.drew;replace ks := ks.drew;replace b1 := b1.drew;replace b2 := b2.drew;replace b3 := b3.drew;replace hE := hE.trans (iz.drew _);go_region_held3 (λw' => w'.cell? ⟨w.heap.size,0,none⟩=some (.bool a.neg)/\w'.cell? ⟨w.heap.size,1,none⟩=some (.slice A ((gV a.m).length) c)/\w'.cell? ⟨w.heap.size,2,none⟩=some (.int .i64 a.e)/\w'.cell? ⟨w.heap.size+1,0,none⟩=some (.bool b.neg)/\w'.cell? ⟨w.heap.size+1,1,none⟩=some (.slice B ((gV b.m).length) d)/\w'.cell? ⟨w.heap.size+1,2,none⟩=some (.int .i64 b.e))
    (first|with_reducible exact⟨(b1).c0,(b1).c1,(b1).c2,(b2).c0,(b2).c1,(b2).c2⟩|with_reducible exact⟨(b1.ext jK).c0,(b1.ext jK).c1,(b1.ext jK).c2,(b2.ext jK).c0,(b2.ext jK).c1,(b2.ext jK).c2⟩|with_reducible exact⟨(b1.ext (jK.trans jb)).c0,(b1.ext (jK.trans jb)).c1,(b1.ext (jK.trans jb)).c2,(b2.ext (jK.trans jb)).c0,(b2.ext (jK.trans jb)).c1,(b2.ext (jK.trans jb)).c2⟩|with_reducible exact⟨((b1.ext (jK.trans jb)).xz (g' := w.heap.size+2) ae _ _ _).c0,((b1.ext (jK.trans jb)).xz (g' := w.heap.size+2) ae _ _ _).c1,((b1.ext (jK.trans jb)).xz (g' := w.heap.size+2) ae _ _ _).c2,((b2.ext (jK.trans jb)).xz (g' := w.heap.size+2) ae _ _ _).c0,((b2.ext (jK.trans jb)).xz (g' := w.heap.size+2) ae _ _ _).c1,((b2.ext (jK.trans jb)).xz (g' := w.heap.size+2) ae _ _ _).c2⟩)
    (first
      | (go_at_call 166
         (with_reducible refine(HN.out _ hr).mono ?_)
         rintro r wx0 ⟨A_h4,c_h4,rfl,h4,jK⟩)
      | (go_at_call 303
         (with_reducible refine(HS.out _ _ _ (hs.below jK) h4 (ks.below jK)).mono ?_)
         rintro r wx1 ⟨A_h5,c_h5,rfl,h5,jb⟩;have bz := b3.ext (jK.trans jb);have z0 := bz.c0;have z1 := bz.c1;have z2 := bz.c2;have y0 := bz.fr 0;have y1 := bz.fr 1;have y2 := bz.fr 2))
  replace h4 := h4.below jb;replace hE := hE.trans (jK.trans jb);replace hs := hs.below (jK.trans jb);replace hr := hr.below (jK.trans jb);replace ks := ks.below (jK.trans jb);replace b1 := b1.ext (jK.trans jb);replace b2 := b2.ext (jK.trans jb);replace b3 := b3.ext (jK.trans jb);go_wp2;exact vd (d := D) rfl rfl rfl rfl (bz.set _ _ _ _ _) rfl (bz.qC h5 _ _ _ _ _) (jk.qo hE ae _ _ _ _ _)
open Pu
section
variable {f:FuncId} {L M:List Nat} {jZ:E}
theorem F0(hk:iD L)(hc:∀ (vs:Array Value) (w:World),(callFunc f vs).run prog w = .ok (.enter f vs) w)
 {R:Option Addr->Nat->World->Ending->World->Prop} (H:∀ A c w,Sl w A c L->Tb w->Calls prog f #[.slice A L.length c] w (R A c w))
 (hR:∀ (A:Option Addr) (c:Nat) (B:Nat->Prop) w e w',Sl w A c L->(∀ b,B b->b<w.heap.size/\oR w b)->R A c w e w'->∃ v,e = .returned v/\Below w.heap.size w w'/\iH B (λ_=>True) w' jZ v):gW f [gY L] jZ:=by
 refine⟨hc,λw B vs hK hB hr=>?_⟩;obtain⟨v1,vs,rfl,h1,hr⟩:=hr.mg;obtain rfl:=hr.qk;obtain⟨A,c,rfl,s1⟩:=uO hk h1;exact(H A c w s1 hK).mono λe w' h=>hR A c B w e w' s1 hB h
theorem F1(hk:iD L){n:Int}(hc:∀ (vs:Array Value) (w:World),(callFunc f vs).run prog w = .ok (.enter f vs) w)
 {R:Option Addr->Nat->World->Ending->World->Prop} (H:∀ A c w,Sl w A c L->Tb w->Calls prog f #[.slice A L.length c,.int .i64 n] w (R A c w))
 (hR:∀ (A:Option Addr) (c:Nat) (B:Nat->Prop) w e w',Sl w A c L->(∀ b,B b->b<w.heap.size/\oR w b)->R A c w e w'->∃ v,e = .returned v/\Below w.heap.size w w'/\iH B (λ_=>True) w' jZ v):gW f [gY L,iP n] jZ:=by
 refine⟨hc,λw B vs hK hB hr=>?_⟩;obtain⟨v1,vs,rfl,h1,hr⟩:=hr.mg;obtain⟨v2,vs,rfl,h2,hr⟩:=hr.mg;obtain rfl:=hr.qk;obtain rfl:=iH.kP h2;obtain⟨A,c,rfl,s1⟩:=uO hk h1;exact(H A c w s1 hK).mono λe w' h=>hR A c B w e w' s1 hB h
theorem AS(hk:iD L)(hm:iD M)(hc:∀ (vs:Array Value) (w:World),(callFunc f vs).run prog w = .ok (.enter f vs) w)
 {R:World->Ending->World->Prop} (H:∀ A c B d w,Sl w A c L->Sl w B d M->Tb w->Calls prog f #[.slice A L.length c,.slice B M.length d] w (R w))
 (hR:∀ (B:Nat->Prop) w e w',(∀ b,B b->b<w.heap.size/\oR w b)->R w e w'->∃ v,e = .returned v/\Below w.heap.size w w'/\iH B (λ_=>True) w' jZ v):gW f [gY L,gY M] jZ:=by
 refine⟨hc,λw B vs hK hB hr=>?_⟩;obtain⟨v1,vs,rfl,h1,hr⟩:=hr.mg;obtain⟨v2,vs,rfl,h2,hr⟩:=hr.mg;obtain rfl:=hr.qk;obtain⟨A,c,rfl,s1⟩:=uO hk h1;obtain⟨A',d,rfl,s2⟩:=uO hm h2;exact(H A c A' d w s1 s2 hK).mono λe w' h=>hR B w e w' hB h
end
theorem Gk{L:List Nat}{n:Int}(B:Nat->Prop)(w:World)(e:Ending)(w':World)(hB:∀ b,B b->b<w.heap.size/\oR w b)(h:Cv w L n e w'):∃ v,e = .returned v/\Below w.heap.size w w'/\iH B (λ_=>True) w' (.ix [gY L,iP n]) v:=
 let⟨_,_,h1,h2,h3⟩:=h
 ⟨_,h1,h3,ku.ix (.cons (yg hB h3 h2) (.cons (.v _) (.nil _ _ _)))⟩
theorem rl{L:List Nat}(B:Nat->Prop)(w:World)(e:Ending)(w':World)(hB:∀ b,B b->b<w.heap.size/\oR w b)(h:tg w L e w'):∃ v,e = .returned v/\Below w.heap.size w w'/\iH B (λ_=>True) w' (gY L) v:=
 let⟨_,_,h1,h2,h3⟩:=h
 ⟨_,h1,h3,yg hB h3 h2⟩
theorem tS(L:List Nat)(hk:iD L):gW 274 [gY L] (gY (il L)):=
 F0 hk call274 (λA c w h _=>uH A c L w h) λA c B w e w' h hB ⟨h1,h2⟩=>by subst h2;exact⟨_,h1,Below.refl _ _,yg hB (Below.refl _ _) h.tW⟩
theorem VG(L:List Nat)(hk:iD L)(hl:(il L).length<=256):gW 272 [gY L] (.ix [gY (il L),iP 0]):=
 F0 hk call272 (λA c w h _=>FO A c L w h hl) λA c B w e w' h hB r=>Gk B w e w' hB r
theorem ahn(L:List Nat)(hk:iD L)(hl:L.length<=100000):gW 294 [gY L] (iP (ie (val L))):=
 F0 hk call294 (λA c w h _=>VF A c L w h ae) λA c B w e w' h hB ⟨h1,h2⟩=>by subst h2;exact⟨_,h1,Below.refl _ _,.v _⟩
theorem NB(L M:List Nat)(hk:iD L)(hm:iD M)(hl:L.length<=100000)(nD:M.length<=100000):gW 220 [gY L,gY M] (iP (kf (val L) (val M))):=
 AS hk hm call220 (λA c B d w h k _=>FN A B c d L M w h k ae ae) rv
theorem VK(m n:Nat)(hl:(gV m).length<=256)(hn:n<=65536)(hf:(gV (m*2^n)).length<=256):gW 219 [gY (gV m),iP (n:Int)] (.ix [gY (gV (m*2^n)),iP 0]):=
 F1 (kE m) call219 (λA c w h _=>VJ A c (gV m) n w h hl hn (by rw[jC];exact hf)) λA c B w e w' h hB r=>by rw[jC]at r;exact Gk B w e w' hB r
theorem NF(m n:Nat)(hl:(gV m).length<=256)(hn:n<=65536):gW 301 [gY (gV m),iP (n:Int)] (.ix [gY (gV (m/2^n)),iP 0]):=
 F1 (kE m) call301 (λA c w h _=>VM A c (gV m) n w h hl hn) λA c B w e w' h hB r=>by rw[jC]at r;exact Gk B w e w' hB r
theorem Jp(m n:Nat)(h1:(gV m).length<=256)(h2:(gV n).length<=256)(hf:(gV (m+n)).length<=256):gW 321 [gY (gV m),gY (gV n)] (.ix [gY (gV (m+n)),iP 0]):=by
 refine AS (kE m) (kE n) call321 (λA c B d w h k _=>VE A B c d (gV m) (gV n) w h k h1 h2 (by rw[jC,jC];exact hf)) ?_;rw[jC,jC];exact Gk
theorem FQ(m n:Nat)(h1:(gV m).length<=256)(h2:(gV n).length<=256)(hf:n<=m):gW 322 [gY (gV m),gY (gV n)] (.ix [gY (gV (m-n)),iP 0]):=by
 refine AS (kE m) (kE n) call322 (λA c B d w h k _=>NG A B c d (gV m) (gV n) w h k h1 h2 (by rw[jC,jC];exact hf)) ?_;rw[jC,jC];exact Gk
theorem sC(m:Nat)(hl:(gV m).length<=100000):gW 294 [gY (gV m)] (iP (ie m)):=by
 have:=ahn (gV m) (kE m) hl;rwa[jC]at this
theorem zj(m n:Nat)(hl:(gV m).length<=100000)(nD:(gV n).length<=100000):gW 220 [gY (gV m),gY (gV n)] (iP (kf m n)):=by
 have:=NB (gV m) (gV n) (kE m) (kE n) hl nD;rwa[jC,jC]at this
theorem yJ(a:Dy)(ha:a.ic):gW 166 [gZ a] (gZ (iF a)):=xV call166 (λA c w h _=>RJ a A c w h ha) rd
theorem oL(a:Dy)(ha:a.ic):gW 216 [gZ a] (iP a.iw):=xV call216 (λA c w h _=>Lm a A c w h ha) rv
theorem Bp(s:Bool)(m:Nat)(e:Int)(hl:(gV m).length<=256)(kT:-32768<=e)(kA:e<=32768)(hd:mW (canon s m e)):gW 362 [bP s,gY (gV m),iP e] (.ix [gZ (canon s m e),iP 0]):=by
 refine⟨call362,λw B vs hK hB hr=>?_⟩;obtain⟨v1,vs,rfl,h1,hr⟩:=hr.mg;obtain⟨v2,vs,rfl,h2,hr⟩:=hr.mg;obtain⟨v3,vs,rfl,h3,hr⟩:=hr.mg;obtain rfl:=hr.qk;obtain rfl:=iH.kP h1;obtain rfl:=iH.kP h3;obtain⟨A,c,rfl,s1⟩:=uO (kE m) h2;have:=ahg s A c (gV m) e w s1 hl kT kA hK (by rw[jC];exact hd);rw[jC]at this;exact this.mono λe w' h=>Gh B w e w' hB h
theorem r9:E.le (.sl false 1 1 λi j=>[E.v (.int .u32 1)].getD (i*1+j) (.v (.bool false))) (gY (gV 1)):=by
 have e1:gV 1=[1]:=by rw[zh ag,show 1/4294967296=0 by decide,na]
 rw[e1];refine .sl λi j hi hj=>?_
 obtain rfl:i=0:= ae ;obtain rfl:j=0:= ae ;exact⟨.refl _,rfl⟩
def jr(d:Dy):List E:=[bP d.neg,gY (gV d.m),iP d.e]
def nC(l:List Dy):E:=.sl true l.length 3 λi j=>(jr (l.getD i jA)).getD j .any
theorem Lp(a:Dy):E.le (.sl true 1 3 λi j=>[bP a.neg,gY (gV a.m),iP a.e].getD (i*3+j) (.v (.bool false))) (nC [a]):=.sl λi j hi hj=>by
 obtain rfl:i=0:= ae ;rcases j with _|_|_|j
 .exact ⟨.refl _,rfl⟩
 .exact ⟨.refl _,rfl⟩
 .exact ⟨.refl _,rfl⟩
 .omega
theorem wE(a b:Dy):E.le (.sl true 2 3 λi j=>[bP a.neg,gY (gV a.m),iP a.e,bP b.neg,gY (gV b.m),iP b.e].getD (i*3+j) (.v (.bool false))) (nC [a,b]):=.sl λi j hi hj=>by
 obtain rfl|rfl:i=0\/i=1:= ae 
 all_goals
  rcases j with _|_|_|j
  .exact ⟨.refl _,rfl⟩
  .exact ⟨.refl _,rfl⟩
  .exact ⟨.refl _,rfl⟩
  .omega
theorem nv{n:Nat}(h:n≠0):((n:Int)==0)=false:= av 
theorem r7{n:Nat}(h:n=0):((n:Int)==0)=true:=by subst h;rfl
theorem BZ{n:Nat}(h:n=0):((n:Int) != 0)=false:=by subst h;rfl
theorem FP{n:Nat}(h:n≠0):((n:Int) != 0)=true:= av 
theorem qZ{m:Nat}:(gV m).length=0↔m=0:=by rw[gy,U3]
theorem pU{m:Nat}(h:m≠0):(gV m).length≠0:=λq=>h (qZ.1 q)
theorem Fp.Dy.ic.gV{d:Dy}(h:d.ic):(gV d.m).length<=256:=by have:=h.len;omega
end Go.Proofs.YtkjkcjhacddojaaGreatDoor
namespace Go.Proofs.YtkjkcjhacddojaaGreatDoor.Fp
structure Iv where
 lo:Dy
 hi:Dy
 all:Bool
def ig:Iv:=⟨jA,jA,true⟩
def Iv.ic(x:Iv):Prop:=(x.all=true/\x.lo=jA/\x.hi=jA)\/(x.all=false/\x.lo.ic/\x.hi.ic/\jo x.lo x.hi<=0)
theorem mi:ig.ic:=.inl ⟨rfl,rfl,rfl⟩
def kI(lo:Dy)(e:Int)(hi:Dy)(f:Int):Iv:=if e≠0\/f≠0 then ig else⟨lo,hi,false⟩
def kO(a b:Dy):Dy:=canon (a.neg != b.neg) (a.m*b.m) (a.e+b.e)
def pV(x:Iv):Iv:=if x.all then ig else⟨iF x.hi,iF x.lo,false⟩
def jl(x y:Iv)(p:Nat):Iv:=
 if x.all||y.all then ig else kI (jh (iJ x.lo y.lo) p false) (jx (iJ x.lo y.lo) p false) (jh (iJ x.hi y.hi) p true) (jx (iJ x.hi y.hi) p true)
def Cm(x y:Iv)(p:Nat):Iv:=jl x (pV y) p
theorem ab1{x y:Int}:wC x y<=0↔x<=y:=by
 unfold wC;split
 .constructor<;>intro<;>omega
 .split<;>constructor<;>intro<;>omega
theorem oB{a b:Dy}{k:Int}(ha:nS a k)(hb:nS b k):jo a b<=0↔a.num k<=b.num k:=by rw[CI ha hb,ab1]
theorem le_trans{a b c:Dy}(h1:jo a b<=0)(h2:jo b c<=0):jo a c<=0:=by
 obtain⟨k,ka,kb,kc⟩:∃ k:Int,k<=a.e/\k<=b.e/\k<=c.e:=⟨min a.e (min b.e c.e),ae,ae,ae⟩
 rw[oB (.inr ka) (.inr kb)]at h1;rw[oB (.inr kb) (.inr kc)]at h2;rw[oB (.inr ka) (.inr kc)];omega
theorem zg(a:Dy):jo a a<=0:=by rw[oB (k:=a.e) (.inr (b6 _)) (.inr (b6 _))];exact b6 _
theorem agI(a b:Dy):jo a b<=0\/jo b a<=0:=by
 obtain⟨k,ka,kb⟩:∃ k:Int,k<=a.e/\k<=b.e:=⟨min a.e b.e,ae,ae⟩
 rw[oB (.inr ka) (.inr kb),oB (.inr kb) (.inr ka)];omega
theorem ahG{a b:Dy}(h:jo a b<=0):jo (iF b) (iF a)<=0:=by
 obtain⟨k,ka,kb⟩:∃ k:Int,k<=a.e/\k<=b.e:=⟨min a.e b.e,ae,ae⟩
 rw[oB (.inr ka) (.inr kb)]at h;rw[oB (k:=k) (Eg (.inr kb)) (Eg (.inr ka)),FU,FU];omega
theorem alG{a b c d:Dy}(h1:jo a b<=0)(h2:jo c d<=0):jo (iJ a c) (iJ b d)<=0:=by
 obtain⟨k,ka,kb,kc,kd⟩:∃ k:Int,k<=a.e/\k<=b.e/\k<=c.e/\k<=d.e:=⟨min (min a.e b.e) (min c.e d.e),ae,ae,ae,ae⟩
 rw[oB (.inr ka) (.inr kb)]at h1;rw[oB (.inr kc) (.inr kd)]at h2;rw[oB (k:=k) (GV (.inr ka) (.inr kc)) (GV (.inr kb) (.inr kd)),J7 (.inr ka) (.inr kc),J7 (.inr kb) (.inr kd)];omega
theorem Hp(m:Nat)(e:Int)(p:Nat):
 kH m e false p false*2^jc m e p<=m/\m<=kH m e false p true*2^jc m e p:=by
 have h:=bY m (2^jc m e p);have hr:=bh m (aZ (n:=jc m e p) (ag:0<2));unfold kH;simp only[bq,false_and,a7,bB,false_or,true_and];rw[bc];generalize m/2^jc m e p=q at *
 generalize 2^jc m e p=P at *
 refine⟨ae,?_⟩;rw[bL,bc q];split
 .omega
 .omega
theorem K1{s:Bool}{m n:Nat}{e f K:Int}(h1:K<=e)(h2:K<=f)(h:m*2^(e-K).toNat<=n*2^(f-K).toNat):
 (s=false->jo (canon s m e) (canon s n f)<=0)/\(s=true->jo (canon s n f) (canon s m e)<=0):=by
 constructor
 .rintro rfl
  rw[oB (Ac h1) (Ac h2),V1 h1,V1 h2]
  exact_mod_cast h
 .rintro rfl
  rw[oB (Ac h2) (Ac h1),B4 h1,B4 h2];simp only[bn];omega
theorem Rl(neg:Bool)(m:Nat)(e:Int)(p:Nat)(up:Bool)(he:jH neg m e false p up=0)(_hp:1<=p):
 (up=true->jo (canon neg m e) (jR neg m e false p up)<=0)/\(up=false->jo (jR neg m e false p up) (canon neg m e)<=0):=by
 rw[Es]at he;obtain⟨c1,c2⟩:=Hp m e p;have e1:(e-e).toNat=0:= ae ;have e2:(e+(jc m e p:Int)-e).toNat=jc m e p:= ae ;have hk:e<=e+(jc m e p:Int):= ae ;have A:=λs:Bool=>K1 (s:=s) (m:=kH m e false p false) (n:=m) (e:=e+jc m e p) (f:=e) (K:=e) hk (b6 _) (by rw[e1,e2];simpa using c1)
 have B:=λs:Bool=>K1 (s:=s) (m:=m) (n:=kH m e false p true) (e:=e) (f:=e+jc m e p) (K:=e) (b6 _) hk (by rw[e1,e2];simpa using c2)
 unfold jR;by_cases ho:lV m e false p (neg != up)=true
 .have hn:¬(neg != up)=true:=λh=>he ⟨ho,h⟩
  rw[aS ho,aR hn];have TP:neg=up:=by cases neg<;>cases up<;>simp at hn ⊢
  have kj:(neg != up)=false:=by rw[TP];simp
  rw[kj]at ho;unfold lV at ho;simp only[bu,bU]at ho;obtain⟨o1,o2⟩:=ho;have hq:=rH o1;have pA:=mY o1;obtain⟨K,k1,k2⟩:∃ K:Int,K<=e/\K<=16384-p:=⟨min e (16384-p),ae,ae⟩
  have C:(2^p-1)*2^((16384:Int)-p-K).toNat<=m*2^(e-K).toNat:=by
   have h1:2^(ie (kH m e false p false)-1)*2^jc m e p<=m:=aY (bE _ hq) c1;have h2:=bE (2^(e-K).toNat) h1;rw[<-aX,<-aX]at h2;refine aY (bE _ (dm _ _)) (aY ?_ h2);rw[<-aX];exact bj ag ae 
  have D:=K1 (s:=neg) k2 k1 C;subst TP;cases neg
  .exact ⟨λh=>absurd h ag,λ_=>D.1 rfl⟩
  .exact ⟨λ_=>D.2 rfl,λh=>absurd h ag⟩
 .rw [aR ho]
  cases neg<;>cases up
  .exact ⟨λh=>absurd h ag,λ_=>(A false).1 rfl⟩
  .exact ⟨λ_=>(B false).1 rfl,λh=>absurd h ag⟩
  .exact ⟨λh=>absurd h ag,λ_=>(B true).2 rfl⟩
  .exact ⟨λ_=>(A true).2 rfl,λh=>absurd h ag⟩
theorem XB{d:Dy}(hd:d.kN)(p:Nat)(hp:1<=p):
 (jx d p true=0->jo d (jh d p true)<=0)/\(jx d p false=0->jo (jh d p false) d<=0):=by
 have h:=hd.CF;constructor
 .intro he
  have:=(Rl d.neg d.m d.e p true he hp).1 rfl;rwa[h]at this
 .intro he
  have:=(Rl d.neg d.m d.e p false he hp).2 rfl;rwa[h]at this
theorem si{x y:Iv}(hx:x.ic)(hy:y.ic){p:Nat}(hp:1<=p)(ia:p<=4096):(jl x y p).ic:=by
 unfold jl;rcases hx with⟨h,_⟩|⟨h1,h2,h3,h4⟩
 .rw [h];exact mi
 .rcases hy with⟨h,_⟩|⟨k1,k2,k3,k4⟩
  .rw [h,h1];exact mi
  .rw [h1,k1]
   simp only[gz,bq,a7];unfold kI;by_cases he:jx (iJ x.lo y.lo) p false≠0\/jx (iJ x.hi y.hi) p true≠0
   .rw [aS he];exact mi
   .rw [aR he]
    have e1:jx (iJ x.lo y.lo) p false=0:= ae ;have e2:jx (iJ x.hi y.hi) p true=0:= ae ;refine .inr ⟨rfl,mu _ _ _ _ _ _ hp ia,mu _ _ _ _ _ _ hp ia,?_⟩;exact le_trans ((XB (Bk h2.canon k2.canon) p hp).2 e1) (le_trans (alG h4 k4) ((XB (Bk h3.canon k3.canon) p hp).1 e2))
theorem B2{x:Iv}(hx:x.ic):(pV x).ic:=by
 unfold pV;rcases hx with⟨h,_⟩|⟨h1,h2,h3,h4⟩
 .rw [aS h];exact mi
 .rw [h1]
  exact .inr ⟨rfl,qA h3,qA h2,ahG h4⟩
def iU(a b:Dy):Dy:=if jo b a<0 then b else a
def iR(a b:Dy):Dy:=if 0<jo b a then b else a
theorem FE(a b:Dy):jo (iU a b) a<=0:=by
 unfold iU;split
 .omega
 .exact zg a
theorem Vs(a b:Dy):jo (iU a b) b<=0:=by
 unfold iU;split
 .exact zg b
 .rcases agI a b with h|h
  .exact h
  .have h0:jo b a=0:= ae 
   obtain⟨k,ka,kb⟩:∃ k:Int,k<=a.e/\k<=b.e:=⟨min a.e b.e,ae,ae⟩
   rw[CI (k:=k) (.inr kb) (.inr ka)]at h0;rw[oB (.inr ka) (.inr kb)];unfold wC at h0;split at h0
   .omega
   .split at h0<;>omega
theorem xv(a b:Dy):jo a b = -jo b a:=by
 obtain⟨k,ka,kb⟩:∃ k:Int,k<=a.e/\k<=b.e:=⟨min a.e b.e,ae,ae⟩
 rw[CI (k:=k) (.inr ka) (.inr kb),CI (k:=k) (.inr kb) (.inr ka)];unfold wC;split<;>split<;>(try split)<;>omega
theorem DC(a b:Dy):jo a (iR a b)<=0:=by
 unfold iR;split
 .rw [xv];omega
 .exact zg a
theorem Vp(a b:Dy):jo b (iR a b)<=0:=by
 unfold iR;split
 .exact zg b
 .omega
theorem qi{a b:Dy}(ha:a.ic)(hb:b.ic):(iU a b).ic:=by unfold iU;split;exact hb;exact ha
theorem pj{a b:Dy}(ha:a.ic)(hb:b.ic):(iR a b).ic:=by unfold iR;split;exact hb;exact ha
def mq(D : Dy->Dy->Bool->Dy)(E : Dy->Dy->Bool->Int)(x y : Iv) : Iv:=
 if(E x.lo y.lo false=0/\E x.lo y.lo true=0)/\(E x.lo y.hi false=0/\E x.lo y.hi true=0)/\(E x.hi y.lo false=0/\E x.hi y.lo true=0)/\(E x.hi y.hi false=0/\E x.hi y.hi true=0)then
  ⟨iU (iU (iU (D x.lo y.lo false) (D x.lo y.hi false)) (D x.hi y.lo false)) (D x.hi y.hi false),
   iR (iR (iR (D x.lo y.lo true) (D x.lo y.hi true)) (D x.hi y.lo true)) (D x.hi y.hi true),false⟩
 else ig
theorem St{D:Dy->Dy->Bool->Dy}{E:Dy->Dy->Bool->Int}{x y:Iv}(hv:∀ a b up,(D a b up).ic)
 (hle:E x.lo y.lo false=0->E x.lo y.lo true=0->jo (D x.lo y.lo false) (D x.lo y.lo true)<=0):(mq D E x y).ic:=by
 unfold mq;split
 .rename_i h
  refine .inr ⟨rfl,qi (qi (qi (hv _ _ _) (hv _ _ _)) (hv _ _ _)) (hv _ _ _),pj (pj (pj (hv _ _ _) (hv _ _ _)) (hv _ _ _)) (hv _ _ _),?_⟩;refine le_trans (FE _ _) (le_trans (FE _ _) (le_trans (FE _ _) (le_trans (hle h.1.1 h.1.2) ?_)));exact le_trans (DC _ _) (le_trans (DC _ _) (DC _ _))
 .exact mi
def iO(x y:Iv)(p:Nat):Iv:=
 if x.all||y.all then ig else mq (λa b up=>jh (kO a b) p up) (λa b up=>jx (kO a b) p up) x y
theorem qj(x y:Iv){p:Nat}(hp:1<=p)(ia:p<=4096):(iO x y p).ic:=by
 unfold iO;split
 .exact mi
 .exact St (λ_ _ _=>mu _ _ _ _ _ _ hp ia) (λh1 h2=>Rj _ _ _ _ _ h1 h2)
def kq(a b:Dy)(p:Nat)(g:Nat):Nat:=p+g+ie b.m-ie a.m
def kx(a b:Dy)(p:Nat)(up:Bool):Dy:=
 if a.m=0 then jA else jR (a.neg != b.neg) (a.m*2^kq a b p 2/b.m) (a.e-b.e-kq a b p 2) (decide (a.m*2^kq a b p 2%b.m≠0)) p up
def nm(a b:Dy)(p:Nat)(up:Bool):Int:=
 if a.m=0 then 0 else jH (a.neg != b.neg) (a.m*2^kq a b p 2/b.m) (a.e-b.e-kq a b p 2) (decide (a.m*2^kq a b p 2%b.m≠0)) p up
theorem Lf{a b:Dy}(a0:a.m≠0)(b0:b.m≠0)(p g:Nat)(hg:2<=g):p<ie (a.m*2^kq a b p g/b.m):=by
 have h1:=rH a0;have h2:=oY b.m;have ha:=mY a0;have h3:2^p<=a.m*2^kq a b p g/b.m:=by
  rw[cM ae];refine aY (cg _ (cX h2)) (aY ?_ (bE _ h1));rw[<-aX,<-aX];exact bj ag (by unfold kq;omega)
 exact sA.2 h3
theorem acw{a b:Dy}(a0:a.m≠0)(b0:b.m≠0)(p:Nat)(up:Bool):
 jR (a.neg != b.neg) (a.m*2^kq a b p 3/b.m) (a.e-kq a b p 3-b.e) (decide (a.m*2^kq a b p 3%b.m≠0)) p up=kx a b p up /\
 jH (a.neg != b.neg) (a.m*2^kq a b p 3/b.m) (a.e-kq a b p 3-b.e) (decide (a.m*2^kq a b p 3%b.m≠0)) p up=nm a b p up:=by
 obtain⟨d,hd⟩:∃ d,kq a b p 3=kq a b p 2+d:=⟨kq a b p 3-kq a b p 2,by unfold kq;omega⟩
 have hb:=Lf a0 b0 p 2 ag;unfold kx nm;rw[aR a0,aR a0,hd];generalize kq a b p 2=k at *
 have hB:0<b.m:= ae ;have hP:=aZ (n:=d) (ag:0<2);have e1:a.m*2^(k+d)/b.m/2^d=a.m*2^k/b.m:=by
  rw[cA,aX,<-bd,Nat.mul_div_mul_right _ _ hP]
 have e2:(decide (a.m*2^(k+d)%b.m≠0)||decide (a.m*2^(k+d)/b.m%2^d≠0))=decide (a.m*2^k%b.m≠0):=by
  have h1:a.m*2^(k+d)%(b.m*2^d)=a.m*2^k%b.m*2^d:=by rw[aX,<-bd,Nat.mul_mod_mul_right]
  have h2:a.m*2^(k+d)%(b.m*2^d)=a.m*2^(k+d)%b.m+b.m*(a.m*2^(k+d)/b.m%2^d):=fM;rw[h1]at h2;rw[cS];simp only[fH,bU];constructor
  .intro h h0
   rw[h0,cr]at h2;rcases h with h|h
   .omega
   .have:=eG hB (dE h)
    omega
  .intro h
   apply bG;intro hn;have n1:a.m*2^(k+d)%b.m=0:=by
    apply bG;intro h';exact hn (.inl h')
   have n2:a.m*2^(k+d)/b.m%2^d=0:=by
    apply bG;intro h';exact hn (.inr h')
   rw[n1,n2,cv]at h2;have:=eG (dE h) hP;omega
 have h:=Ho (N:=a.m*2^(k+d)/b.m) (E:=a.e-((k+d:Nat):Int)-b.e) (more:=decide (a.m*2^(k+d)%b.m≠0)) (d:=d) (p:=p) (a.neg != b.neg) up (by rw[e1];exact hb);rw[e1,e2,show a.e-((k+d:Nat):Int)-b.e+(d:Int)=a.e-b.e-(k:Int)by omega]at h;exact⟨h.1.symm,h.2.symm⟩
def lK(x:Iv):Int:=if x.all then 0 else if 0<x.lo.iK then 1 else if x.hi.iK<0 then -1 else 0
def jT(x y:Iv)(p:Nat):Iv:=
 if x.all||y.all||decide (lK y=0)then ig else mq (λa b up=>kx a b p up) (λa b up=>nm a b p up) x y
theorem wD(x y:Iv){p:Nat}(hp:1<=p)(ia:p<=4096):(jT x y p).ic:=by
 unfold jT;split
 .exact mi
 .refine St (λa b up=>?_) (λh1 h2=>?_)
  .unfold kx;split
   .exact rI
   .exact mu _ _ _ _ _ _ hp ia
  .unfold kx nm at *
   split
   .exact zg _
   .rename_i h
    rw[aR h]at h1 h2;exact Rj _ _ _ _ _ h1 h2
def lh(d:Dy):Dy:=⟨false,d.m,d.e⟩
theorem rM{d:Dy}(h:d.ic):(lh d).ic:=by
 refine⟨?_,h.range⟩;rcases h.canon with⟨h1,_,h3⟩|h1
 .exact .inl ⟨h1,rfl,h3⟩
 .exact .inr h1
theorem ZG(d:Dy)(k:Int):(lh d).num k=(d.jS k:Int):=by unfold Dy.num lh Dy.jS;simp
def mD(x:Iv):Dy:=iR (lh x.lo) (lh x.hi)
def nu(x:Iv):Dy:=if lK x=0 then jA else iU (lh x.lo) (lh x.hi)
def iZ(x:Iv):Iv:=if x.all then ig else⟨nu x,mD x,false⟩
def mo(d:Dy):Iv:=⟨d,d,false⟩
theorem vR{d:Dy}(h:d.ic):(mo d).ic:=.inr ⟨rfl,h,h,zg d⟩
theorem Jk{x:Iv}(h1:x.lo.ic)(h2:x.hi.ic):(mD x).ic:=pj (rM h1) (rM h2)
theorem Cw{x:Iv}(h:x.ic):(iZ x).ic:=by
 unfold iZ;rcases h with⟨h,_⟩|⟨h,h1,h2,_⟩
 .rw [h];exact mi
 .rw [h]
  have v1:=rM h1;have v2:=rM h2;refine .inr ⟨rfl,?_,Jk h1 h2,?_⟩
  .show (nu x).ic
   unfold nu;split
   .exact rI
   .exact qi v1 v2
  .show jo (nu x) (mD x)<=0
   unfold nu;split
   .refine le_trans (b:=lh x.lo) ?_ (DC _ _)
    rw[oB (a:=jA) (b:=lh x.lo) (k:=x.lo.e) (.inl rfl) (.inr (b6 _)),vO rfl,ZG];omega
   .exact le_trans (FE _ _) (DC _ _)
def jf(n:Int):Dy:=kY n 0
def jF(n:Int):Iv:=mo (jf n)
def tw:Iv:=mo (canon false 1 (-1))
end Go.Proofs.YtkjkcjhacddojaaGreatDoor.Fp
namespace Go.Proofs.YtkjkcjhacddojaaGreatDoor
open Go.RowKit Fp Pu
def ja(x:Iv):List E:=[bP x.lo.neg,gY (gV x.lo.m),iP x.lo.e,bP x.hi.neg,gY (gV x.hi.m),iP x.hi.e,bP x.all]
def ib(x:Iv):E:=.agg (ja x)
def ij(l:List Iv):E:=.sl true l.length 7 λi j=>(ja (l.getD i ig)).getD j .any
def qh(m:List (List Iv)):E:=.sl true m.length 1 λi _=>ij (m.getD i [])
def pg(x y:Iv):Bool:=y.all||(!x.all&&(decide (jo y.lo x.lo<=0)&&decide (jo x.hi y.hi<=0)))
theorem AN:E.le (.v (.slice none 0 0)) (gY (gV 0)):=by
 have:gY (gV 0) = .sl false 0 1 λi _=>.v (.int .u32 (((gV 0).getD i 0:Nat):Int)):=by unfold gY;rw[na];rfl
 rw[this];exact .nil _ _ _
theorem GG:E.le (.agg [bP false,.v (.slice none 0 0),iP 0,bP false,.v (.slice none 0 0),iP 0,bP true]) (ib ig):=
 .agg (.cons (.refl _) (.cons AN (.cons (.refl _) (.cons (.refl _) (.cons AN (.cons (.refl _) (.cons (.refl _) .nil)))))))
structure RD where
 neg:Bool
 L:List Nat
 e:Int
structure RI where
 lo:RD
 hi:RD
 all:Bool
def Ot(d:RD):List E:=[bP d.neg,gY d.L,iP d.e]
def mf(d:RD):E:=.agg (Ot d)
def zG(x:RI):List E:=[bP x.lo.neg,gY x.lo.L,iP x.lo.e,bP x.hi.neg,gY x.hi.L,iP x.hi.e,bP x.all]
def qR(x:RI):E:=.agg (zG x)
def D0:RD:=⟨false,[],0⟩
def ju:RI:=⟨D0,D0,true⟩
def j8(l:List RI):E:=.sl true l.length 7 λi j=>(zG (l.getD i ju)).getD j .any
structure RD.jg(d:RD):Prop where
 ok:iD d.L
 lo:-9223372036854775808<=d.e
 hi:d.e<=9223372036854775807
structure RI.jg(x:RI):Prop where
 lo:x.lo.jg
 hi:x.hi.jg
theorem XO:D0.jg:=⟨iD.nil,ag,ag⟩
theorem OO:ju.jg:=⟨XO,XO⟩
def RD.dy(d:RD):Dy:=⟨d.neg,val d.L,d.e⟩
def RD.Ok(d:RD):Prop:=oP d.neg d.L d.e
def RD.Zero(d:RD):Prop:=d.neg=false/\d.L=[]/\d.e=0
def RI.iv(x:RI):Iv:=⟨x.lo.dy,x.hi.dy,x.all⟩
def RI.Ok(x:RI):Prop:=(x.all=true/\x.lo.Zero/\x.hi.Zero)\/(x.all=false/\x.lo.Ok/\x.hi.Ok/\jo x.lo.dy x.hi.dy<=0)
def Fp.Dy.raw(d:Dy):RD:=⟨d.neg,gV d.m,d.e⟩
def Fp.Iv.raw(x:Iv):RI:=⟨x.lo.raw,x.hi.raw,x.all⟩
theorem RD.Ok.valid{d:RD}(h:d.Ok):d.dy.ic:=h.2.2
theorem RD.Ok.eq{d:RD}(h:d.Ok)(g:d.jg):d.dy.raw=d:=by
 obtain⟨n,L,e⟩:=d;show RD.mk n (gV (val L)) e=_;rw[<-oP.EC h g.ok]
theorem RD.Zero.eq{d:RD}(h:d.Zero):d.dy=jA/\d.dy.raw=d:=by
 obtain⟨n,L,e⟩:=d;obtain⟨rfl,rfl,rfl⟩:=h;refine⟨rfl,?_⟩;show RD.mk false (gV 0) 0=_;rw[na]
theorem RI.Ok.valid{x:RI}(h:x.Ok):x.iv.ic:=by
 rcases h with⟨h1,h2,h3⟩|⟨h1,h2,h3,h4⟩
 .exact .inl ⟨h1,h2.eq.1,h3.eq.1⟩
 .exact .inr ⟨h1,h2.valid,h3.valid,h4⟩
theorem RI.Ok.eq{x:RI}(h:x.Ok)(g:x.jg):x.iv.raw=x:=by
 obtain⟨lo,hi,a⟩:=x;rcases h with⟨h1,h2,h3⟩|⟨h1,h2,h3,h4⟩
 .show RI.mk lo.dy.raw hi.dy.raw a=_
  rw[h2.eq.2,h3.eq.2]
 .show RI.mk lo.dy.raw hi.dy.raw a=_
  rw[h2.eq g.lo,h3.eq g.hi]
theorem Fp.Dy.W3(d:Dy):d.raw.dy=d:=by show Dy.mk d.neg (val (gV d.m)) d.e=d;rw[jC]
theorem Lh(d:Dy):mf d.raw=gZ d:=rfl
theorem Je(x:Iv):qR x.raw=ib x:=rfl
theorem Fp.Dy.ic.Iq{d:Dy}(h:d.ic):d.raw.jg:=⟨kE _,by have:=h.exp;show -9223372036854775808<=d.e;omega,by have:=h.exp;show d.e<=9223372036854775807;omega⟩
theorem Fp.Dy.ic.Jw{d:Dy}(h:d.ic):d.raw.Ok:=h.vc
theorem Fp.Iv.ic.Jw{x:Iv}(h:x.ic):x.raw.Ok:=by
 rcases h with⟨h1,h2,h3⟩|⟨h1,h2,h3,h4⟩
 .refine .inl ⟨h1,?_,?_⟩
  .show x.lo.raw.Zero;rw[h2];exact⟨rfl,na,rfl⟩
  .show x.hi.raw.Zero;rw[h3];exact⟨rfl,na,rfl⟩
 .refine .inr ⟨h1,h2.Jw,h3.Jw,?_⟩
  show jo x.lo.raw.dy x.hi.raw.dy<=0;rw[Dy.W3,Dy.W3];exact h4
theorem Fp.Iv.ic.j9{x:Iv}(h:x.ic):x.lo.ic/\x.hi.ic:=by
 rcases h with⟨_,h2,h3⟩|⟨_,h2,h3,_⟩
 .rw [h2,h3];exact⟨rI,rI⟩
 .exact ⟨h2,h3⟩
theorem Fp.Iv.ic.Iq{x:Iv}(h:x.ic):x.raw.jg:=⟨h.j9.1.Iq,h.j9.2.Iq⟩
theorem am6:ig.raw=ju:=by
 show RI.mk jA.raw jA.raw true=RI.mk D0 D0 true;have:jA.raw=D0:=by show RD.mk false (gV 0) 0=_;rw[na];rfl
 rw[this]
def s7(l:List Iv):List RI:=l.map Iv.raw
theorem aem(l:List Iv)(i:Nat):(s7 l).getD i ju=(l.getD i ig).raw:=by
 unfold s7;rw[aW,aW,cj];cases l[i]? with
 |none=>exact am6.symm
 |some x=>rfl
theorem Jg(l:List Iv):j8 (s7 l)=ij l:=by
 unfold j8 ij;rw[show(s7 l).length=l.length by simp[s7]];congr 1;funext i j;rw[aem];rfl
theorem Bq(d:RD)(g:d.jg)(b:Bool)(hb:b=true↔d.Ok):gW 92 [mf d] (bP b):=by
 refine⟨call92,λw B vs hK hB hr=>?_⟩;obtain⟨v1,vs,rfl,h1,hr⟩:=hr.mg;obtain rfl:=hr.qk;obtain⟨us,rfl,q⟩:=iH.CA (show iH _ _ w (.agg _) v1 from h1);obtain⟨u1,us,rfl,k1,q⟩:=q.mg;obtain⟨u2,us,rfl,k2,q⟩:=q.mg;obtain⟨u3,us,rfl,k3,q⟩:=q.mg;obtain rfl:=q.qk;obtain rfl:=iH.kP k1;obtain rfl:=iH.kP k3;obtain⟨A,c,rfl,hs⟩:=uO g.ok k2;exact(Br d.neg A c d.L d.e w b hs g.lo g.hi hb).mono λe w' h=>rv B w e w' hB h
theorem JN(d:RD)(g:d.jg)(b:Bool)(hb:b=true↔d.Ok):gW 96 [mf d] (bP b):=by
 refine⟨call96,λw B vs hK hB hr=>?_⟩;obtain⟨v1,vs,rfl,h1,hr⟩:=hr.mg;obtain rfl:=hr.qk;obtain⟨us,rfl,q⟩:=iH.CA (show iH _ _ w (.agg _) v1 from h1);obtain⟨u1,us,rfl,k1,q⟩:=q.mg;obtain⟨u2,us,rfl,k2,q⟩:=q.mg;obtain⟨u3,us,rfl,k3,q⟩:=q.mg;obtain rfl:=q.qk;obtain rfl:=iH.kP k1;obtain rfl:=iH.kP k3;obtain⟨A,c,rfl,hs⟩:=uO g.ok k2;exact(JO d.neg A c d.L d.e w b hs g.lo g.hi hb).mono λe w' h=>rv B w e w' hB h
theorem B0{a b:Nat}(h:a=b):((a:Int) != (b:Int))=false:=by simp[h]
theorem DF{a b:Nat}(h:a=b):((a:Int)==b)=true:=by simp[h]
open Classical in
noncomputable def ny(x:RI):Bool:=decide x.Ok
theorem r8{x:RI}:ny x=true↔x.Ok:=by unfold ny;simp
open Classical in
open Go.ChangeShapes Go.WideShapes Go.ChangeAt
abbrev nd:Nat->Prop:=λ_=>False
theorem abR{W:World}{a:Addr}{v:Value}(h:W.cell? a=some v):a.spot=none:=by
 obtain⟨b,o,s⟩:=a;rcases s with _|q
 .rfl
 .exfalso
  unfold World.cell? at h;split at h<;>simp at h
theorem OB{W:World}{a:Addr}{len cap sz:Nat}{nl:Bool}(el:Nat->Nat->E)(hl:len<=cap)(hm:cap<=maxLen)(lO:0<sz)
 (h1:∀ i j,i<len->j<sz->(el i j).one=true/\(nl=true->(el i j).nx=true)/\(el i j).nr 2=true)
 (hx:∀ i,i<len->∃ cs,W.cells? 0 (a.add (i*sz)) sz=some cs/\∀ j,j<sz->∃ v,cs[j]? = some v/\iH nd nd W (el i j) v):
 iH nd nd W (.sl nl len sz el) (.slice (some a) len cap):=by
 have TM:cap<=9223372036854775807:=by simpa[maxLen]using hm
 have cellAt:∀ i j,i<len->j<sz->∃ v,W.cell? (a.add (i*sz+j))=some v/\iH nd nd W (el i j) v:=by
  intro i j hi hj;obtain⟨cs,h2,h3⟩:=hx i hi;obtain⟨v,h4,h5⟩:=h3 j hj;refine⟨v,?_,h5⟩;rw[<-Deep.add_add,(World.cells?_some h2).2.2 j hj,h4]
 by_cases h0:len=0
 .subst h0
  exact .sl nl 0 sz el _ cap (λ_ _=>.bool false) ae TM (λh=>by cases h) (λi j hi=>absurd hi ae) (λi j hi=>absurd hi ae) (λi j hi=>absurd hi ae) (λi j hi=>absurd hi ae)
 .obtain ⟨b,o,s⟩:=a
  have hs:s=none:=by
   obtain⟨v,h2,_⟩:=cellAt 0 0 ae lO;rw[cr,bX,show(⟨b,o,s⟩:Addr).add 0=⟨b,o,s⟩from rfl]at h2;exact abR h2
  subst hs;have cell2:∀ i j,∃ v:Value,i<len->j<sz->W.cell? ⟨b,o+(i*sz+j),none⟩=some v/\iH nd nd W (el i j) v:=by
   intro i j;by_cases hi:i<len
   .by_cases hj:j<sz
    .obtain ⟨v,h2,h3⟩:=cellAt i j hi hj
     rw[Bf]at h2;exact⟨v,λ_ _=>⟨h2,h3⟩⟩
    .exact ⟨.bool false,λ_ h=>absurd h hj⟩
   .exact ⟨.bool false,λh=>absurd h hi⟩
  let f:Nat->Nat->Value:=λi j=>Classical.choose (cell2 i j)
  have hf:∀ i j,i<len->j<sz->W.cell? ⟨b,o+(i*sz+j),none⟩=some (f i j)/\iH nd nd W (el i j) (f i j):=λi j=>cN (cell2 i j)
  refine .sl nl len sz el _ cap f hl TM (λh=>by cases h) (λi j hi hj=>?_) (λi j hi hj=>(h1 i j hi hj).2.2) (λi j hi hj=>?_) (λi j hi hj=>(hf i j hi hj).2)
  .exact ⟨(hf i j hi hj).2.one (h1 i j hi hj).1,λq=>(hf i j hi hj).2.nx ((h1 i j hi hj).2.1 q)⟩
  .exact ⟨b,o,rfl,id,block_lt_of_cell (hf i j hi hj).1,(hf i j hi hj).1⟩
def Pv(W:World)(d:RD)(cs:List Value):Prop:=d.jg/\cs.length=3/\∀ j,j<3->∃ v,cs[j]? = some v/\iH nd nd W ((Ot d).getD j .any) v
def Ku(W:World)(x:RI)(cs:List Value):Prop:=x.jg/\cs.length=7/\∀ j,j<7->∃ v,cs[j]? = some v/\iH nd nd W ((zG x).getD j .any) v
section
variable {H:Type} {enc:TypeId×Value->H} {W:World} {fuel:Nat} {cs:List Value} {x:DataW H×List MemPlace}
theorem NV(h:DataW.trod enc prog W 0 (λ_=>true) true fuel 39 cs=some x)(iE:∀ p ∈ x.2,p.block<W.heap.size):∃ d,Pv W d cs:=by
 obtain⟨s,A,L,cap,e,rfl,tJ,h1,h2⟩:=ah1 h iE;refine⟨⟨s,L,e⟩,⟨tJ.ok,h1,h2⟩,rfl,λj hj=>?_⟩;rcases j with _|_|_|j
 .exact ⟨_,rfl,.v _⟩
 .exact ⟨_,rfl,yg (w:=W) (λ_ h=>h.elim) (.refl _) tJ⟩
 .exact ⟨_,rfl,.v _⟩
 .omega
theorem ah5(h:DataW.trod enc prog W 0 (λ_=>true) true fuel 46 cs=some x)(iE:∀ p ∈ x.2,p.block<W.heap.size):∃ d,Ku W d cs:=by
 obtain⟨xs,n,rfl,rfl,hl,lv,hf⟩:=DataW.trod_struct underlying46 h;have hC:prog.cellsOf 46=7:= ah ;have hD:prog.cellsOf 39=3:= ah ;have hB:prog.cellsOf 4=1:= ah ;rw[hC]at hl;obtain⟨c0,c1,c2,c3,c4,c5,c6,rfl⟩:=ag1 hl;have h0:=hf 0 _ rfl;have h1:=hf 1 _ rfl;have h2:=hf 2 _ rfl;simp only[eN,eO,dX]at h0 h1 h2;simp only[hD,hB,eP,eR,ep,eU]at h0 h1 h2;rw[bg (by rw[lv];decide)]at h0 h1 h2;obtain⟨lo,g1,_,k1⟩:=NV h0 (λp hp=>iE p (eV.2 ⟨_,cz _,hp⟩));obtain⟨hi,g2,_,k2⟩:=NV h1 (λp hp=>iE p (eV.2 ⟨_,cz _,hp⟩));obtain⟨al,e2,_⟩:=DataW.trod_bool underlying4 h2;simp at e2;subst e2;refine⟨⟨lo,hi,al⟩,⟨g1,g2⟩,rfl,λj hj=>?_⟩;rcases j with _|_|_|_|_|_|_|j
 .exact k1 0 ag 
 .exact k1 1 ag 
 .exact k1 2 ag 
 .exact k2 0 ag 
 .exact k2 1 ag 
 .exact k2 2 ag 
 .exact ⟨_,rfl,.v _⟩
 .omega
theorem akk(x:RI)(j:Nat)(hj:j<7):((zG x).getD j .any).one=true/\(((zG x).getD j .any).nx=true)/\((zG x).getD j .any).nr 2=true:=by
 rcases j with _|_|_|_|_|_|_|j
 all_goals first|exact⟨rfl,rfl,rfl⟩|omega
theorem NW(h:DataW.trod enc prog W 0 (λ_=>true) true fuel 26 cs=some x)(iE:∀ p ∈ x.2,p.block<W.heap.size):
  ∃ l v,cs=[v]/\(∀ y,y ∈ l->y.jg)/\iH nd nd W (j8 l) v:=by
 have hC:prog.cellsOf 46=7:= ah ;rcases Deep.open_slice underlying26 h with⟨rfl,_⟩|⟨a,len,cap,m,n,D,Pl,rfl,hb,hl,hm,sr,rfl,hx⟩
 .exact ⟨[],_,rfl,(λy hy=>by cases hy),.sl true 0 7 _ none 0 (λ_ _=>.bool false) (aV _) ag (λ_=>rfl) (λi j hi=>absurd hi (bk i)) (λi j hi=>absurd hi (bk i)) (λi j hi=>absurd hi (bk i)) (λi j hi=>absurd hi (bk i))⟩
 .simp only[bn]at sr
  subst sr;have ex:∀ i,∃ y:RI,i<len->∃ cs',W.cells? 0 (a.add (i*7)) 7=some cs'/\Ku W y cs':=by
   intro i;by_cases hi:i<len
   .obtain ⟨cs',h1,h2⟩:=hx i ae 
    rw[hC]at h1;obtain⟨y,hy⟩:=ah5 h2 (λp hp=>iE p (List.mem_append_right _ (eV.2 ⟨i,bI.2 ae,hp⟩)));exact⟨y,λ_=>⟨cs',h1,hy⟩⟩
   .exact ⟨ju,λh=>absurd h hi⟩
  let X:Nat->RI:=λi=>Classical.choose (ex i)
  have hX:∀ i,i<len->∃ cs',W.cells? 0 (a.add (i*7)) 7=some cs'/\Ku W (X i) cs':=λi=>cN (ex i)
  have hlen:((List.range len).map X).length=len:= aj ;refine⟨(List.range len).map X,_,rfl,?_,?_⟩
  .intro y hy
   obtain⟨i,hi,rfl⟩:=c9.1 hy;obtain⟨cs',_,h2⟩:=hX i (bI.1 hi);exact h2.1
  .have EX:∀ i,i<len->((List.range len).map X).getD i ju=X i:=by
    intro i hi;rw[aW,cj,an0 hi];rfl
   have:=OB (W:=W) (a:=a) (len:=len) (cap:=m) (nl:=true) (λi j=>(zG (((List.range len).map X).getD i ju)).getD j .any) hl hm (show 0<7 by decide)
    (λi j _ hj=>let⟨h1,h2,h3⟩:=akk (((List.range len).map X).getD i ju) j hj;⟨h1,λ_=>h2,h3⟩)
    (λi hi=>by
     obtain⟨cs',h1,h2,_,h3⟩:=hX i hi;exact⟨cs',h1,λj hj=>by rw[EX i hi];exact h3 j hj⟩)
   unfold j8;rw[hlen];exact this
end
theorem aeP{P:Program}{c:OpenClaim}(h:P.funcs.any Func.goes=false)(hs:c.start = .entering):false=c.goesBy P:=by
 have h1:∀ g:Nat,(P.funcs[g]?).any Func.goes=false:=by
  intro g;cases hg:P.funcs[g]? with
  |none=>rfl
  |some fn=>
   rw[Option.any_some];rw[Array.any_eq_false]at h;obtain⟨hl,he⟩:=cQ.1 hg;have:=h g hl;rw[he]at this;simpa using this
 have h2:∀ f,P.goes f=false:=by
  intro f;unfold Program.goes;rw[h,Bool.and_false,gU,dM];intro g _;rw[h1 g];decide
 unfold OpenClaim.goesBy Program.goesAt Program.goesFrom;rw[hs];cases P.funcNamed c.func with
 |none=>rfl
 |some f=>simp[h2 f]
theorem ad7:Tryz.pinned.checked.prog.funcs.any Func.goes=false:= ah 
def UG(k:IntKind)(l:List Int):E:=.sl true l.length 1 λi _=>.v (.int k (l.getD i 0))
theorem Zf{k:IntKind}{z:Int}(h:(Lit.int k z).wf=true):ky k z:=by
 cases k<;>(simp[Lit.wf,IntKind.min,IntKind.max,IntKind.signed,IntKind.bits]at h;simp only[ky];omega)
theorem ah2{H:Type}{enc:TypeId×Value->H}{W:World}{fuel:Nat}{cs:List Value}{x:DataW H×List MemPlace}{t e:TypeId}{k:IntKind}(hk:∀ z,sy (.int k z)=false)(ht:prog.underlying t=some (.slice e))(he:prog.underlying e=some (.int k))(hC:prog.cellsOf e=1)
  (h:DataW.trod enc prog W 0 (λ_=>true) true fuel t cs=some x):∃ l v,cs=[v]/\(∀ z,z ∈ l->ky k z)/\iH nd nd W (UG k l) v:=by
 rcases Deep.open_slice ht h with⟨rfl,_⟩|⟨a,len,cap,m,n,D,Pl,rfl,hb,hl,hm,sr,rfl,hx⟩
 .exact ⟨[],_,rfl,(λy hy=>by cases hy),.sl true 0 1 _ none 0 (λ_ _=>.bool false) (aV _) ag (λ_=>rfl) (λi j hi=>absurd hi (bk i)) (λi j hi=>absurd hi (bk i)) (λi j hi=>absurd hi (bk i)) (λi j hi=>absurd hi (bk i))⟩
 .simp only[bn]at sr
  subst sr;have ex:∀ i,∃ z:Int,i<len->W.cells? 0 (a.add (i*1)) 1=some [.int k z]/\ky k z:=by
   intro i;by_cases hi:i<len
   .obtain ⟨cs',h1,h2⟩:=hx i ae 
    rw[hC]at h1;obtain⟨z,hz,_,hw⟩:=DataW.trod_int he h2;subst hz;exact⟨z,λ_=>⟨h1,Zf hw⟩⟩
   .exact ⟨0,λh=>absurd h hi⟩
  let X:Nat->Int:=λi=>Classical.choose (ex i)
  have hX:∀ i,i<len->W.cells? 0 (a.add (i*1)) 1=some [.int k (X i)]/\ky k (X i):=λi=>cN (ex i)
  have hlen:((List.range len).map X).length=len:= aj ;refine⟨(List.range len).map X,_,rfl,?_,?_⟩
  .intro r hr
   obtain⟨i,hi,rfl⟩:=c9.1 hr;exact(hX i (bI.1 hi)).2
  .have EX:∀ i,i<len->((List.range len).map X).getD i 0=X i:=by
    intro i hi;rw[aW,cj,an0 hi];rfl
   have:=OB (W:=W) (a:=a) (len:=len) (cap:=m) (nl:=true) (λi _=>.v (.int k (((List.range len).map X).getD i 0))) hl hm (show 0<1 by decide)
    (λi j _ hj=>⟨rfl,λ_=>by show(!sy _)=true;rw[hk];rfl,rfl⟩)
    (λi hi=>by
     refine⟨[.int k (X i)],(hX i hi).1,λj hj=>?_⟩;obtain rfl:j=0:= ae ;exact⟨_,rfl,by rw[EX i hi];exact .v _⟩)
   unfold UG;rw[hlen];exact this
end Go.Proofs.YtkjkcjhacddojaaGreatDoor
namespace Go.Proofs.YtkjkcjhacddojaaGreatDoor.Pu
open Go.RowKit
inductive R where
 |nil
 |jE
 |a (p:Prop) (r:R)
 |w (p:Prop) (r1:p->R) (r2:¬p->R)
def R.ok:R->Prop
 | .nil=>True
 | .jE=>False
 | .a p r=>p/\r.ok
 | .w p r1 r2=>(∀ h:p,(r1 h).ok)/\(∀ h:¬p,(r2 h).ok)
inductive Tr(P:Program)(K:World->Prop) where
 |nil
 |c {f:FuncId} {args:List E} {jZ:E} (h:PC P K f args jZ) (t:Tr P K)
 |cf {f:FuncId} {args:List E} {jZ:E} (h:Be P K f args jZ) (t:Tr P K)
 |cn {f:FuncId} {args:List E} {nl:Bool} {T:TypeId} {n sz:Nat} {el:Nat->Nat->E} (h:tc P K f args nl T n sz el) (t:Tr P K)
 |g {op:BinOp} {ty:TypeId} {x y:E} {v:Value} (h:pG P op ty x y v) (t:Tr P K)
 |o (d:Nat) {p q:PV} (h:PV.le p q) (t:Tr P K)
 |bo (t:Tr P K)
 |a {p:Prop} (h:p) (t:Tr P K)
 |w (p:Prop) (t1:p->Tr P K) (t2:¬p->Tr P K)
 |s {c:Code} {σ τ:PS} {e:Ex} (h:Sp P K c σ (λe' τ'=>e'=e/\τ'=τ)) (l t:Tr P K)
 |j (c:Nat) (τ:PS) (tj t:Tr P K)
 |v (d:Nat) {p q:PV} (h:PV.le p q) (t:Tr P K)
 |b (d:Nat) {p q:Bx} (h:Bx.le p q) (t:Tr P K)
 |z (id:Nat) (t:Tr P K)
 |y (s id:Nat) (nl:Bool) (T:TypeId) (sz:Nat) (el:Nat->Nat->E) (t:Tr P K)
 |e (t:Tr P K)
 |k (ts bs:List Nat) (t:Tr P K)
 |u (n:Nat) (t:Tr P K)
 |x (h:False)
 |r {p q:E} (h:E.le p q)
 |rb {p q:Bx} (h:Bx.le p q)
section
variable {P:Program} {K:World->Prop}
def D8:List (Nat×PV)->Tr P K->(Tr P K->R)->R
 | [],t,k=>k t
 | (d,q)::l,t,k=>match t with
  | .o d' (p:=p) (q:=q') _ t'=>if Nat.beq d' d then .a (PV.le p q') (D8 l t' k)else .a (PV.le q q) (D8 l t k)
  |t=>.a (PV.le q q) (D8 l t k)
def CD:List (Nat×Bx)->Tr P K->R->R
 | [],_,r=>r
 | (d,q)::l,t,r=>match t with
  | .b d' (p:=p) (q:=q') _ t'=>if Nat.beq d' d then .a (Bx.le p q') (CD l t' r)else .a (Bx.le q q) (CD l t r)
  |t=>.a (Bx.le q q) (CD l t r)
def D4(σ:PS)(t:Tr P K)(r:R):R:=D8 σ.t t λt=>CD σ.b t r
def Tr.ex:Tr P K->(Tr P K->R)->R
 | .nil,fin=>fin .nil
 | .e t,fin=>fin t
 | @Tr.c _ _ f args jZ _ t,fin=>.a (PC P K f args jZ) (t.ex fin)
 | @Tr.cf _ _ f args jZ _ t,fin=>.a (Be P K f args jZ) (t.ex fin)
 | @Tr.cn _ _ f args nl T n sz el _ t,fin=>.a (tc P K f args nl T n sz el) (t.ex fin)
 | @Tr.g _ _ op₁ ty₁ xe₁ ye₁ ve₁ _ t,fin=>.a (pG P op₁ ty₁ xe₁ ye₁ ve₁) (t.ex fin)
 | .o _ (p:=p) (q:=q) _ t,fin=>.a (PV.le p q) (t.ex fin)
 | .bo t,fin=>.a True (t.ex fin)
 | .a (p:=p) _ t,fin=>.a p (t.ex fin)
 | .w p t1 t2,fin=>.w p (λh=>(t1 h).ex fin) (λh=>(t2 h).ex fin)
 | @Tr.s _ _ c₁ σ τ e₁ _ l t,fin=>D4 σ l (.a (Sp P K c₁ σ (λe' τ'=>e'=e₁/\τ'=τ)) (t.ex fin))
 | .j _ τ tj t,fin=>.a (tj.ex λt=>D4 τ t .nil).ok (t.ex fin)
 | .v _ (p:=p) (q:=q) _ t,fin=>.a (PV.le p q) (t.ex fin)
 | .b _ _ t,fin=>t.ex fin
 | .z _ t,fin=>t.ex fin
 | .y _ _ _ _ _ _ t,fin=>t.ex fin
 | .k _ _ t,fin=>t.ex fin
 | .u _ t,fin=>t.ex fin
 | .x _,fin=>.a False .nil
 | .r (p:=p) (q:=q) _,fin=>.a (E.le p q) .nil
 | .rb (p:=p) (q:=q) _,fin=>.a (Bx.le p q) .nil
theorem alY{l:List (Nat×PV)}{t:Tr P K}{k:Tr P K->R}(hk:∀ t,(k t).ok):(D8 l t k).ok:=by
 induction l generalizing t with
 |nil=>exact hk t
 |cons x l ih=>
  obtain⟨d,q⟩:=x;cases t with
  |o d' h t'=>
   simp only[D8];split
   .exact ⟨h,ih⟩
   .exact ⟨PV.le.refl q,ih⟩
  |_=>exact⟨PV.le.refl q,ih⟩
theorem aab{l:List (Nat×Bx)}{t:Tr P K}{r:R}(hr:r.ok):(CD l t r).ok:=by
 induction l generalizing t with
 |nil=>exact hr
 |cons x l ih=>
  obtain⟨d,q⟩:=x;cases t with
  |b d' h t'=>
   simp only[CD];split
   .exact ⟨h,ih⟩
   .exact ⟨Bx.le.refl q,ih⟩
  |_=>exact⟨Bx.le.refl q,ih⟩
theorem O3{σ:PS}{t:Tr P K}{r:R}(hr:r.ok):(D4 σ t r).ok:=alY λ_=>aab hr
theorem Tr.LH{fin:Tr P K->R}(hf:∀ t,(fin t).ok)(t:Tr P K):(t.ex fin).ok:=by
 induction t generalizing fin with
 |nil=>exact hf _
 |e t=>exact hf _
 |c h t ih=>exact⟨h,ih hf⟩
 |cf h t ih=>exact⟨h,ih hf⟩
 |cn h t ih=>exact⟨h,ih hf⟩
 |g h t ih=>exact⟨h,ih hf⟩
 |o d h t ih=>exact⟨h,ih hf⟩
 |bo t ih=>exact⟨trivial,ih hf⟩
 |a h t ih=>exact⟨h,ih hf⟩
 |w p t1 t2 Fm Fo=>exact⟨λh=>Fm h hf,λh=>Fo h hf⟩
 |s h l t ihl MZ=>exact O3 ⟨h,MZ hf⟩
 |j c τ tj t ihj MZ=>exact⟨ihj λ_=>O3 trivial,MZ hf⟩
 |v d h t ih=>exact⟨h,ih hf⟩
 |b d h t ih=>exact ih hf
 |z id t ih=>exact ih hf
 |y s id nl T sz el t ih=>exact ih hf
 |k ts bs t ih=>exact ih hf
 |u n t ih=>exact ih hf
 |x h=>exact h.elim
 |r h=>exact⟨h,trivial⟩
 |rb h=>exact⟨h,trivial⟩
def O9(υ:PS):List (Nat×PV)->R->R
 | [],r=>r
 | (d,q)::l,r=>.a (PV.le (υ.get d) q) (O9 υ l r)
def G7(υ:PS):List (Nat×Bx)->R->R
 | [],r=>r
 | (d,q)::l,r=>match υ.bo d with
  |some b=>.a (Bx.le b q) (G7 υ l r)
  |none=>.jE
def J6(υ σ:PS)(r:R):R:=if Nat.beq υ.n σ.n&&(σ.b.all (λx=>x.2.nl)||(σ.nl==υ.nl))&&Gj σ then O9 υ σ.t (G7 υ σ.b r)else .jE
def Tr.tail:Tr P K->Tr P K
 | .c _ t=>t
 | .cf _ t=>t
 | .cn _ t=>t
 | .g _ t=>t
 | .bo t=>t
 | .a _ t=>t
 |_=>.nil
def NO:List Prop->Tr P K->(Tr P K->R)->R
 | [],t,k=>k t
 |p::l,t,k=>.a p (NO l t.tail k)
def Q0(d:Option Tmp)(t:Tr P K):qG:=match d with
 |some d=>match t with
  | @Tr.c _ _ _ _ jZ _ _=>{ cl:=[(d,jZ)] }
  | @Tr.cf _ _ _ _ jZ _ _=>{ cl:=[(d,jZ)] }
  | @Tr.g _ _ _ _ _ _ ve₁ _ _=>{ cl:=[(d,.v ve₁)] }
  | @Tr.cn _ _ _ _ nl T n sz el _ _=>{ nw:=[(d,.row nl T n sz el)] }
  | .bo _=>{ nw:=[(d,.cells 0 [])] }
  |_=>{}
 |none=>{}
def F2:Tr P K->(Tr P K->R)->R
 | .w p t1 t2,k=>.w p (λh=>F2 (t1 h) k) (λh=>F2 (t2 h) k)
 | .x _,_=>.a False .nil
 |t,k=>k t
def N6(o:Oper)(u:kQ)(t:Tr P K)(k:kQ->Tr P K->R):R:=match o.dst,t with
 |some d,.o d' (q:=q) _ t'=>if Nat.beq d' d then .a (PV.le u.r q) (k { u with r:=q,jY:=PV.le u.r q::u.jY } t')else k u t
 |_,t=>k u t
def NU(T:List TI)(gX:Array Oper)(σ:PS)(o:Oper)(t:Tr P K)(k:kQ->Tr P K->R):R:=
 if vG σ o.dst then match zV gX σ o with
  |some false=>k { r:=.e (.v (.tuple #[])),rd:=(looks gX o).map σ.get } t
  |some true=>F2 t λt=>match jN P K T (Q0 o.dst t) σ o with
   |some u=>NO u.jY t λt=>F2 t λt=>N6 o u t λu t=>k { u with rd:=(looks gX o).map σ.get } t
   |none=>.jE
  |none=>.jE
 else .jE
def NY(T:List TI)(gX:Array Oper)(k:List (Oper×kQ)->PS->Tr P K->R):List Oper->List (Oper×kQ)->PS->Tr P K->R
 | [],us,σ,t=>k us σ t
 |o::l,us,σ,t=>NU T gX σ o t λu t'=>NY T gX k l ((o,u)::us) (σ.app o.dst u) t'
def rF(c:Bool):Tr P K->PS->(Tr P K->PS->R)->R
 | .w p t1 t2,σ,k=>.w p (λh=>rF c (t1 h) σ k) (λh=>rF c (t2 h) σ k)
 | .x _,_,_=>.a False .nil
 | .v d (q:=q) _ t,σ,k=>match q with
  | .e x=>if vG σ (some d)then .a (PV.le (σ.get d) (.e x)) (rF c t (σ.put (some d) (.e x)) k)else .jE
  |_=>.jE
 | .k ts bs t,σ,k=>if c then k (.k ts bs t) σ else if Gj (σ.cut ts bs)then rF c t (σ.cut ts bs) k else .jE
 | .z id t,σ,k=>if c then k (.z id t) σ else match σ.bo id with
  |some b=>match b.as with
   |some e=>rF c t (σ.xB id e) k
   |none=>.jE
  |none=>.jE
 | .y s id nl T sz el t,σ,k=>if c then k (.y s id nl T sz el t) σ else match σ.bo id,σ.get s with
  |none,.e (.v (.slice none 0 0))=>if !σ.nl||nl then rF c t (σ.Cz s id (.row nl T 0 sz el)) k else .jE
  |_,_=>.jE
 |t,σ,k=>k t σ
def OY(c:Code)(σ:PS)(t:Tr P K)(k:Ex->PS->Tr P K->R):R:=match t with
 | @Tr.s _ _ _ σ' τ e _ _ t=>J6 σ σ' (.a (Sp P K c σ' (λe' τ'=>e'=e/\τ'=τ)) (k e τ t))
 |_=>.jE
def Ex.qn:Ex->Ex->Bool
 | .normal,.normal=>true
 | .ret,.ret=>true
 | .exit a,.exit b=>Nat.beq a b
 |_,_=>false
def EB(e:Ex)(τ:PS)(e':Ex)(υ:PS)(_:Tr P K):R:=if Ex.qn e' e then J6 υ τ .nil else .jE
def ab4:Operand->Nat
 | .tmp t=>2*t
 |_=>1
def jn(c:Nat)(g:PS->Tr P K->(Ex->PS->Tr P K->R)->R)(σ:PS)(t:Tr P K)(k:Ex->PS->Tr P K->R):R:=match t with
 | .j c' τ tj t'=>if Nat.beq c' c then .a (g σ tj (EB .normal τ)).ok (k .normal τ t')else g σ t k
 |t=>g σ t k
def Y2(f:PS->Tr P K->(Ex->PS->Tr P K->R)->R):Nat->PS->Tr P K->(Ex->PS->Tr P K->R)->R
 | 0,_,_,_=>.jE
 |n+1,σ,t,k=>rF false t σ λt σ=>f σ t λe τ t=>match e with
  | .normal=>Y2 f n τ t k
  |e=>k e τ t
def vh(T:List TI):Code->PS->Tr P K->(Ex->PS->Tr P K->R)->R
 | .skip,σ,t,k=>k .normal σ t
 | .region _ gX d,σ,t,k=>NY T gX (λus τ t=>if !d||DK gX 0 us.reverse then k .normal τ t else .jE) gX.toList [] σ t
 | .seq a b,σ,t,k=>vh T a σ t λe τ t=>match e with
  | .normal=>vh T b τ t k
  |e=>k e τ t
 | .cond c a b,σ,t,k=>rF true t σ λt σ=>jn (ab4 c) (λσ t k=>rF true t σ λt σ=>match σ.op c with
  | .e (.v (.bool true))=>vh T a σ t k
  | .e (.v (.bool false))=>vh T b σ t k
  |_=>.jE) σ t k
 | .block id b,σ,t,k=>rF true t σ λt σ=>jn (2*id+1) (λσ t k=>vh T b σ t λe τ t=>match e with
  | .exit i=>if Nat.beq i id then k .normal τ t else k (.exit i) τ t
  |e=>k e τ t) σ t k
 | .exit id,σ,t,k=>rF false t σ λt σ=>k (.exit id) σ t
 | .ret,σ,t,k=>rF false t σ λt σ=>k .ret σ t
 | .loop b,σ,t,k=>rF false t σ λt σ=>match t with
  | .u n t=>Y2 (vh T b) n σ t k
  |t=>OY (.loop b) σ t k
 | .label _,σ,t,k=>k .normal σ t
 | .scope b,σ,t,k=>vh T b σ t k
 |_,_,_,_=>.jE
theorem Wh{t:Tr P K}{k:Tr P K->R}(h:(F2 t k).ok):∃ t',(k t').ok:=by
 induction t with
 |w p t1 t2 Fm Fo=>
  by_cases hp:p
  .exact Fm hp (h.1 hp)
  .exact Fo hp (h.2 hp)
 |x hf=>exact hf.elim
 |_=>exact⟨_,h⟩
theorem ahU{l:List Prop}{t:Tr P K}{k:Tr P K->R}(h:(NO l t k).ok):(∀ q,q ∈ l->q)/\∃ t',(k t').ok:=by
 induction l generalizing t with
 |nil=>exact⟨λq hq=>by simp at hq,t,h⟩
 |cons p l ih=>
  obtain⟨h1,h2⟩:=ih h.2;refine⟨λq hq=>?_,h2⟩;rcases cV.1 hq with hq|hq
  .subst hq;exact h.1
  .exact h1 q hq
variable {T:List TI} {gX:Array Oper} {σ:PS} {o:Oper}
theorem aie{O:qG}{u:kQ}{t:Tr P K}{k:kQ->Tr P K->R}(hO:O.ov=[])(hu:jN P K T O σ o=some u)(ho:∀ q,q ∈ u.jY->q)(h:(N6 o u t k).ok):
 ∃ O' u' t',ud P K T O' σ o=some u'/\(∀ q,q ∈ u'.jY->q)/\(k u' t').ok:=by
 have plain:(k u t).ok->∃ O' u' t',ud P K T O' σ o=some u'/\(∀ q,q ∈ u'.jY->q)/\(k u' t').ok:=by
  intro h;refine⟨O,u,t,?_,ho,h⟩;unfold ud;rw[hu,hO];cases o.dst<;>rfl
 unfold N6 at h;split at h
 .rename_i d d' p q hpq t' hd
  split at h
  .obtain ⟨h1,h2⟩:=h
   refine⟨⟨O.cl,[(d,q)],O.nw⟩,_,t',?_,λx hx=>?_,h2⟩
   .unfold ud
    have he:jN P K T ⟨O.cl,[(d,q)],O.nw⟩ σ o=jN P K T O σ o:=by cases O;rfl
    rw[he,hu,hd];simp[look]
   .rcases cV.1 hx with hx|hx
    .subst hx;exact h1
    .exact ho x hx
  .exact plain h
 .exact plain h
theorem ahZ{t:Tr P K}{k:kQ->Tr P K->R}(h:(NU T gX σ o t k).ok):∃ u t',(∃ O,q9 P K T O gX σ o=some u)/\(∀ q,q ∈ u.jY->q)/\(k u t').ok:=by
 unfold NU at h;split at h
 .rename_i hi
  split at h
  .rename_i hw
   refine⟨_,t,⟨{},?_⟩,λq hq=>by simp at hq,h⟩;unfold q9;rw[aS hi,hw]
  .rename_i hw
   obtain⟨t1,h1⟩:=Wh h;split at h1
   .rename_i u hu
    obtain⟨ho,t2,h2⟩:=ahU h1;obtain⟨t2,h2⟩:=Wh h2;obtain⟨O',u',t3,Dl,IV,h3⟩:=aie (by
     unfold Q0;cases o.dst with
     |none=>rfl
     |some d=>cases t1<;>rfl) hu ho h2
    refine⟨{ u' with rd:=(looks gX o).map σ.get },t3,⟨O',?_⟩,IV,h3⟩;unfold q9;rw[aS hi,hw,Dl]
   .exact h1.elim
  .exact h.elim
 .exact h.elim
theorem aia{k:List (Oper×kQ)->PS->Tr P K->R}{l:List Oper}{us:List (Oper×kQ)}{t:Tr P K}(h:(NY T gX k l us σ t).ok):
 ∃ vs τ t',wi P K T gX vs σ τ/\vs.map (·.1)=l/\(∀ x,x ∈ vs->∀ q,q ∈ x.2.jY->q)/\(k (vs.reverse++us) τ t').ok:=by
 induction l generalizing us σ t with
 |nil=>exact⟨[],σ,t,rK.refl σ,rfl,λx hx=>by simp at hx,h⟩
 |cons o l ih=>
  obtain⟨u,t1,h1,h2,h3⟩:=ahZ h;obtain⟨vs,τ,t',k1,k2,k3,k4⟩:=ih h3;refine⟨(o,u)::vs,τ,t',⟨h1,k1⟩,by simp[k2],λx hx=>?_,by simpa using k4⟩;rcases cV.1 hx with hx|hx
  .subst hx;exact h2
  .exact k3 x hx
theorem PS.le.set{σ:PS}{d:Nat}{x:E}(hd:vG σ (some d)=true)(h:PV.le (σ.get d) (.e x)):PS.le σ (σ.put (some d) (.e x)):=λw0 B a w L _ r=>by
 have wN:d<σ.n:=by simpa[vG,Nat.blt_eq]using hd
 refine⟨L,r.hd,by rw[PS.NA];exact r.hs,λt=>?_,λid b hb=>r.hb id b hb,r.hv,r.hn,r.hw,r.hi,r.he,r.hl⟩;rw[PS.LS];by_cases e:d=t
 .subst e;rw[aS rfl];exact h _ _ _ _ _ (r.ht d)
 .rw [aR e];exact r.ht t
theorem B7{c:Bool}{t:Tr P K}{σ:PS}{k:Tr P K->PS->R}(h:(rF c t σ k).ok):∃ t' τ,PS.le σ τ/\(k t' τ).ok:=by
 induction t generalizing σ with
 |w p t1 t2 Fm Fo=>
  by_cases hp:p
  .exact Fm hp (h.1 hp)
  .exact Fo hp (h.2 hp)
 |k ts bs t ih=>
  simp only[rF]at h;split at h
  .exact ⟨_,σ,PS.le.refl σ,h⟩
  split at h
  .rename_i hr
   obtain⟨t',τ,h1,h2⟩:=ih h;exact⟨t',τ,(PS.le.cut ts bs hr).trans h1,h2⟩
  .exact h.elim
 |v d h0 t ih=>
  simp only[rF]at h;split at h
  .rename_i x
   split at h
   .rename_i hd
    obtain⟨t',τ,h1,h2⟩:=ih h.2;exact⟨t',τ,(PS.le.set hd h.1).trans h1,h2⟩
   .exact h.elim
  .exact h.elim
 |z id t ih=>
  simp only[rF]at h;split at h
  .exact ⟨_,σ,PS.le.refl σ,h⟩
  split at h
  .rename_i b hb
   split at h
   .rename_i e he
    obtain⟨t',τ,h1,h2⟩:=ih h;exact⟨t',τ,(PS.le.freeze id hb he).trans h1,h2⟩
   .exact h.elim
  .exact h.elim
 |y s id nl T sz el t ih=>
  simp only[rF]at h;split at h
  .exact ⟨_,σ,PS.le.refl σ,h⟩
  split at h
  .rename_i hb hg
   split at h
   .rename_i hn
    obtain⟨t',τ,h1,h2⟩:=ih h;exact⟨t',τ,(PS.le.ZL s id hb hg (λe=>by rw[e]at hn;simpa using hn)).trans h1,h2⟩
   .exact h.elim
  .exact h.elim
 |x hf=>exact hf.elim
 |_=>exact⟨_,σ,PS.le.refl σ,h⟩
theorem alZ{υ:PS}{l:List (Nat×PV)}{r:R}(h:(O9 υ l r).ok):xq υ l/\r.ok:=by
 induction l with
 |nil=>exact⟨trivial,h⟩
 |cons x l ih=>obtain⟨d,q⟩:=x;exact⟨⟨h.1,(ih h.2).1⟩,(ih h.2).2⟩
theorem aaC{υ:PS}{l:List (Nat×Bx)}{r:R}(h:(G7 υ l r).ok):we υ l/\r.ok:=by
 induction l with
 |nil=>exact⟨trivial,h⟩
 |cons x l ih=>
  obtain⟨d,q⟩:=x;simp only[G7]at h;split at h
  .rename_i b hb
   exact⟨⟨⟨b,hb,h.1⟩,(ih h.2).1⟩,(ih h.2).2⟩
  .exact h.elim
theorem Yk{υ σ:PS}{r:R}(h:(J6 υ σ r).ok):PS.le υ σ/\r.ok:=by
 unfold J6 at h;split at h
 .rename_i hc
  simp only[bu,fH,gr]at hc;obtain⟨⟨h1,h2⟩,h3⟩:=hc;obtain⟨h4,h5⟩:=alZ h;obtain⟨h6,h7⟩:=aaC h5;refine⟨?_,h7⟩;rcases h2 with h2|h2
  .exact PS.le.agz (mU.1 h1) h2 h3 h4 h6
  .exact PS.le.pT (mU.1 h1) h2 h3 h4 h6
 .exact h.elim
theorem akL(hT:mJ P T){w0:World}{B:Nat->Prop}{a:Act}{w:World}{L:Lk}(g:Gd P K w0 B){us:List (Oper×kQ)}{τ:PS}{Q:Exit->Act->World->Prop}(h:wi P K T gX us σ τ)(ho:∀ x,x ∈ us->∀ q,q ∈ x.2.jY->q)
 (r:jD w0 B σ a w L) (hq:∀ a' w' L',jD w0 B τ a' w' L'->Q .normal a' w'):wpList P gX Q (us.map (·.1)) a w:=by
 induction us generalizing σ a w L with
 |nil=>exact hq a w L (r.qn h)
 |cons x us ih=>
  obtain⟨⟨O,h1⟩,h2⟩:=h;rw[eW];unfold wpList;rcases Sa hT g r h1 (ho x aj) (wpList P gX Q (us.map (·.1))) Q (λa' w' L' hr=>ih h2 (λy hy=>ho y (by simp[hy])) hr)with⟨p1,p2⟩|⟨p1,p2⟩
  .rw [aS p1];exact .inl p2
  .rw [aR (by rw[p1];simp)];exact p2
theorem akb(hT:mJ P T)(hm:P.follows .mixedOrders=true){w0:World}{B:Nat->Prop}{a:Act}{w:World}{L:Lk}(g:Gd P K w0 B){id:Nat}{draw:Bool}{us:List (Oper×kQ)}{τ:PS}{Q:Exit->Act->World->Prop}
 (h:wi P K T gX us σ τ) (hl:us.map (·.1)=gX.toList) (ho:∀ x,x ∈ us->∀ q,q ∈ x.2.jY->q) (hp:(!draw||DK gX 0 us)=true) (r:jD w0 B σ a w L)
 (hq:∀ a' w' L',jD w0 B τ a' w' L'->Q .normal a' w'):(Code.region id gX draw).wp P Q a w:=by
 cases draw with
 |false=>exact wp_region_list (by rw[<-hl];exact akL hT g h ho r hq)
 |true=>
  obtain⟨R,r1,r2,r3⟩:=agJ hl (by simpa using hp);refine wp_region_any hm (ZP hT g hq gX.size (Array.replicate gX.size false) R σ a w.drew L r2 aj r3 (λx hx=>ho x.2 ?_) (by rw[r1];exact h) r.drew);rw[<-r1];exact c9.2 ⟨x,hx,rfl⟩
theorem alp{c:Code}{t:Tr P K}{k:Ex->PS->Tr P K->R}(h:(OY c σ t k).ok):Sp P K c σ (λe τ=>∃ t',(k e τ t').ok):=by
 unfold OY at h;split at h
 .obtain ⟨h1,h2,h3⟩:=Yk h
  exact Sp.pre h1 (h2.mono λe τ ⟨q1,q2⟩=>by subst q1 q2;exact⟨_,h3⟩)
 .exact h.elim
theorem Ex.akM{a b:Ex}(h:Ex.qn a b=true):a=b:=by
 cases a<;>cases b<;>first|rfl|(cases h;done)|exact congrArg Ex.exit (mU.1 h)
theorem RY{e e':Ex}{τ υ:PS}{t:Tr P K}(h:(EB e τ e' υ t).ok):e'=e/\PS.le υ τ:=by
 unfold EB at h;split at h
 .rename_i he;exact⟨Ex.akM he,(Yk h).1⟩
 .exact h.elim
theorem UT{c:Code}{cb:Nat}{g:PS->Tr P K->(Ex->PS->Tr P K->R)->R}(hg:∀ σ t k,(g σ t k).ok->Sp P K c σ (λe τ=>∃ t',(k e τ t').ok)){σ:PS}{t:Tr P K}{k:Ex->PS->Tr P K->R}(h:(jn cb g σ t k).ok):
 Sp P K c σ (λe τ=>∃ t',(k e τ t').ok):=by
 unfold jn at h;split at h
 .rename_i c' τ tj t
  split at h
  .refine (hg _ _ _ h.1).post λe υ ⟨t',ht⟩=>?_
   obtain⟨he,hl⟩:=RY ht;exact⟨τ,hl,t,by rw[he];exact h.2⟩
  .exact hg _ _ _ h
 .exact hg _ _ _ h
def wk(P:Program)(K:World->Prop)(b:Code)(σ:PS)(Q:Ex->PS->Prop):Prop:=
 ∀ (w0:World) (B:Nat->Prop) (a:Act) (w:World) (L:Lk),Gd P K w0 B->jD w0 B σ a w L->∀ bf k cs,
  ∃ e a' w',(∃ ex τ L',e=Ex.to ex/\Q ex τ/\jD w0 B τ a' w' L')/\Arrives P (lone (bf.at a (.code b :: .inLoop b::k)) cs w) bf k cs e a' w'
theorem wk.loop{b:Code}{σ:PS}{Q:Ex->PS->Prop}(h:wk P K b σ Q):Sp P K (.loop b) σ Q:=by
 intro w0 B a w L g r bf k cs;obtain⟨e,a',w',hq,wK⟩:=h w0 B a w L g r bf k cs;exact⟨e,a',w',hq,.of_steps (.one step_loop) wK⟩
theorem wk.pre{b:Code}{σ τ:PS}{Q:Ex->PS->Prop}(h:PS.le σ τ)(k:wk P K b τ Q):wk P K b σ Q:=λw0 B a w L g r=>
 let⟨L',r'⟩:=h w0 B a w L (λb hb=>(g.hB b hb).1) r;k w0 B a w L' g r'
theorem wk.step{b:Code}{σ:PS}{Q:Ex->PS->Prop}(h:Sp P K b σ (λe τ=>(e = .normal/\wk P K b τ Q)\/(e ≠ .normal/\Q e τ))):wk P K b σ Q:=by
 intro w0 B a w L g r bf k cs;obtain⟨e,a₁,w₁,⟨ex,υ,L2,rfl,hq,nE⟩,wK⟩:=h w0 B a w L g r bf (.inLoop b::k) cs;rcases hq with⟨rfl,hs⟩|⟨jJ,hq⟩
 .obtain ⟨e₂,a₂,w₂,MJ,Mf⟩:=hs w0 B a₁ w₁ L2 g nE bf k cs
  exact⟨e₂,a₂,w₂,MJ,.of_steps (Steps.trans wK (.one step_inLoop)) Mf⟩
 .cases ex with
  |normal=>exact absurd rfl jJ
  |exit i=>exact⟨_,a₁,w₁,⟨.exit i,υ,L2,rfl,hq,nE⟩,.pass (x:=.inLoop b) rfl (λ_ _=>.inl (by simp[Ex.to])) wK⟩
  |ret=>exact⟨_,a₁,w₁,⟨.ret,υ,L2,rfl,hq,nE⟩,.pass (x:=.inLoop b) rfl (λ_ _=>.inl (by simp[Ex.to])) wK⟩
theorem Lx(hT:mJ P T)(hm:P.follows .mixedOrders=true){c:Code}{σ:PS}{t:Tr P K}{k:Ex->PS->Tr P K->R}(h:(vh T c σ t k).ok):Sp P K c σ (λe τ=>∃ t',(k e τ t').ok):=by
 induction c generalizing σ t k with
 |skip=>exact λw0 B a w L g r=>wp_skip ⟨.normal,_,L,rfl,⟨t,h⟩,r⟩
 |region id gX d=>
  obtain⟨vs,τ,t',h1,h2,h3,h4⟩:=aia h;split at h4
  .rename_i hp
   simp only[List.append_nil,List.reverse_reverse]at hp;exact λw0 B a w L g r=>akb hT hm g h1 h2 h3 hp r λa' w' L' hr=>⟨.normal,τ,L',rfl,⟨t',h4⟩,hr⟩
  .exact h4.elim
 |seq x y M0 M1=>
  intro w0 B a w L g r;refine wp_seq (Code.wp_mono ?_ (M0 h w0 B a w L g r));rintro ex a' w' ⟨e1,τ1,L',rfl,⟨t',ht⟩,hr⟩;cases e1 with
  |normal=>exact M1 ht w0 B a' w' L' g hr
  |exit i=>exact⟨.exit i,τ1,L',rfl,⟨t',ht⟩,hr⟩
  |ret=>exact⟨.ret,τ1,L',rfl,⟨t',ht⟩,hr⟩
 |cond c x y M0 M1=>
  obtain⟨t1,τ,hle,h1⟩:=B7 h;refine Sp.pre hle (UT (λσ t k h=>?_) h1);obtain⟨t1,τ,hle,h1⟩:=B7 h;refine Sp.pre hle ?_;split at h1
  .rename_i hc
   intro w0 B a w L g r;have hv:=r.op c;rw[hc]at hv;exact wp_cond_true (iH.kP hv) (M0 h1 w0 B a w L g r)
  .rename_i hc
   intro w0 B a w L g r;have hv:=r.op c;rw[hc]at hv;exact wp_cond_false (iH.kP hv) (M1 h1 w0 B a w L g r)
  .exact h1.elim
 |block id b ih=>
  obtain⟨t1,τ,hle,h1⟩:=B7 h;refine Sp.pre hle (UT (λσ t k h=>?_) h1);intro w0 B a w L g r;refine wp_block (Code.wp_mono ?_ (ih h w0 B a w L g r));rintro ex a' w' ⟨e1,τ1,L',rfl,⟨t',ht⟩,hr⟩;cases e1 with
  |normal=>exact⟨.normal,_,L',rfl,⟨t',ht⟩,hr⟩
  |ret=>exact⟨.ret,_,L',rfl,⟨t',ht⟩,hr⟩
  |exit i=>
   simp only at ht;show Exit.inBlock id _ (.exit i) a' w';split at ht
   .rename_i hi
    have hi:=mU.1 hi;subst hi;simp only[Exit.inBlock,bn];exact⟨.normal,_,L',rfl,⟨t',ht⟩,hr⟩
   .rename_i hi
    have hi:i≠id:=λe=>hi (mU.2 e)
    simp only[Exit.inBlock,hi,a7];exact⟨.exit i,_,L',rfl,⟨t',ht⟩,hr⟩
 |label l=>exact λw0 B a w L g r=>wp_label ⟨.normal,_,L,rfl,⟨t,h⟩,r⟩
 |scope b ih=>
  intro w0 B a w L g r;refine wp_scope_straight (Code.wp_mono ?_ (ih h w0 B a w L g r));rintro ex a' w' ⟨e1,τ1,L',rfl,⟨t',ht⟩,hr⟩;cases e1 with
  |normal=>exact⟨.normal,τ1,L',rfl,⟨t',ht⟩,hr⟩
  |ret=>exact⟨.ret,τ1,L',rfl,⟨t',ht⟩,hr⟩
  |exit i=>exact⟨.exit i,τ1,L',rfl,⟨t',ht⟩,hr⟩
 |exit id=>
  obtain⟨t1,τ,hle,h1⟩:=B7 h;exact Sp.pre hle λw0 B a w L g r=>wp_exit ⟨.exit id,_,L,rfl,⟨t1,h1⟩,r⟩
 |ret=>
  obtain⟨t1,τ,hle,h1⟩:=B7 h;exact Sp.pre hle λw0 B a w L g r=>wp_ret ⟨.ret,_,L,rfl,⟨t1,h1⟩,r⟩
 |loop b ih=>
  obtain⟨t1,τ,hle,h1⟩:=B7 h;refine Sp.pre hle ?_;split at h1
  .rename_i n t
   clear hle h;refine wk.loop ?_
   induction n generalizing τ t with
   |zero=>exact h1.elim
   |succ n ihn=>
    obtain⟨t2,τ2,hle,h1⟩:=B7 h1;refine wk.pre hle (wk.step ((ih h1).mono λe υ ⟨t',ht⟩=>?_));cases e with
    |normal=>exact .inl ⟨rfl,ihn _ _ ht⟩
    |exit i=>exact .inr ⟨aj,t',ht⟩
    |ret=>exact .inr ⟨aj,t',ht⟩
  .exact alp h1
 |_=>exact h.elim
theorem Sp.tr(hT:mJ P T)(hm:P.follows .mixedOrders=true){c:Code}{σ τ:PS}{e:Ex}(t:Tr P K)(h:vh T c σ t (EB e τ)=t.ex λt=>D4 τ t .nil):
 Sp P K c σ (λe' τ'=>e'=e/\τ'=τ):=by
 have hk:=Tr.LH (fin:=λt=>D4 τ t .nil) (λt=>O3 trivial) t;rw[<-h]at hk;refine(Lx hT hm hk).post λe' υ ⟨t',ht⟩=>?_
 obtain⟨he,hl⟩:=RY ht;exact⟨τ,hl,he,rfl⟩
def Sm(T:List TI)(fn:Func)(jZ:E)(e:Ex)(τ:PS)(_:Tr P K):R:=match e with
 | .exit _=>.jE
 |_=>match JQ T fn τ with
  |some r=>.a (E.le r jZ) .nil
  |none=>.jE
def Ox(T:List TI)(fn:Func)(nl:Bool)(args:List E)(jZ:E)(t:Tr P K):R:=match fn.body with
 |some c=>if Nat.ble args.length fn.ntmps then vh T c (AG fn nl args) t (Sm T fn jZ)else .jE
 |none=>.jE
theorem PC.Pd(hT:mJ P T)(hm:P.follows .mixedOrders=true)(hp:∀ w w',K w->Below w.heap.size w w'->K w'){f:FuncId}{fn:Func}{args:List E}{jZ:E}(wM:∀ (vs:Array Value) (w:World),(callFunc f vs).run P w = .ok (.enter f vs) w)
 (hf:P.funcs[f]? = some fn) (nl:Bool) (t:Tr P K) (h:Ox T fn nl args jZ t=t.ex λ_=>.a (E.le jZ jZ) .nil):PC P K f args jZ:=by
 have hk:=Tr.LH (fin:=λ_=>.a (E.le jZ jZ) .nil) (λt=>⟨E.le.refl jZ,trivial⟩) t;rw[<-h]at hk;unfold Ox at hk;split at hk
 .rename_i c hb
  split at hk
  .rename_i hn
   refine PC.Ny hT hm hp wM hf hb (cJ hn) nl ((Lx hT hm hk).mono λe τ ⟨t',ht⟩=>?_);unfold Sm at ht;split at ht
   .exact ht.elim
   .rename_i jJ
    split at ht
    .rename_i r hr
     refine⟨?_,r,hr,ht.1⟩;cases e with
     |normal=>exact .inr rfl
     |ret=>exact .inl rfl
     |exit i=>exact absurd rfl (jJ i)
    .exact ht.elim
  .exact hk.elim
 .exact hk.elim
def Sk(fn:Func)(b:Bx)(e:Ex)(τ:PS)(_:Tr P K):R:=match e with
 | .exit _=>.jE
 |_=>match fn.results.toList with
  | [.tmp t]=>match τ.get t with
   | .own id=>match τ.bo id with
    |some c=>.a (Bx.le c b) .nil
    |none=>.jE
   |_=>.jE
  |_=>.jE
def Ov(T:List TI)(fn:Func)(args:List E)(b:Bx)(t:Tr P K):R:=match fn.body with
 |some c=>if Nat.ble args.length fn.ntmps then vh T c (AG fn true args) t (Sk fn b)else .jE
 |none=>.jE
theorem tc.Pd(hT:mJ P T)(hm:P.follows .mixedOrders=true)(hp:∀ w w',K w->Below w.heap.size w w'->K w'){f:FuncId}{fn:Func}{args:List E}{nl:Bool}{T0:TypeId}{n sz:Nat}{el:Nat->Nat->E}(wM:∀ (vs:Array Value) (w:World),(callFunc f vs).run P w = .ok (.enter f vs) w)
 (hf:P.funcs[f]? = some fn) (t:Tr P K) (h:Ov T fn args (.row nl T0 n sz el) t=t.ex λ_=>.a (Bx.le (.row nl T0 n sz el) (.row nl T0 n sz el)) .nil):tc P K f args nl T0 n sz el:=by
 have hk:=Tr.LH (fin:=λ_=>.a (Bx.le (.row nl T0 n sz el) (.row nl T0 n sz el)) .nil) (λt=>⟨Bx.le.refl _,trivial⟩) t;rw[<-h]at hk;unfold Ov at hk;split at hk
 .rename_i c hb
  split at hk
  .rename_i hn
   refine tc.Ny hT hm hp wM hf hb (cJ hn) true ((Lx hT hm hk).mono λe τ ⟨t',ht⟩=>?_);unfold Sk at ht;split at ht
   .exact ht.elim
   .rename_i jJ
    split at ht
    .rename_i t0 hr
     split at ht
     .rename_i id hg
      split at ht
      .rename_i c' hc
       refine⟨?_,t0,id,c',hr,hg,hc,λbs br L w hk=>ht.1.2 _ _ _ _ _ hk⟩;cases e with
       |normal=>exact .inr rfl
       |ret=>exact .inl rfl
       |exit i=>exact absurd rfl (jJ i)
      .exact ht.elim
     .exact ht.elim
    .exact ht.elim
  .exact hk.elim
 .exact hk.elim
theorem Sp.jy{b:Code}{e:Ex}{τ:PS}(f:Nat->PS)(lo hi:Nat)(h0:lo<=hi)(go:∀ x,(lo<=x/\x<=hi)->x<hi->Sp P K b (f x) (λe' υ=>e' = .normal/\υ=f (x+1)))
 (out:(lo<=hi/\hi<=hi)->Sp P K b (f hi) (λe' υ=>e'=e/\υ=τ)) (he:e ≠ .normal):Sp P K (.loop b) (f lo) (λe' υ=>e'=e/\υ=τ):=by
 refine Sp.fam f (λx=>lo<=x/\x<=hi) (λx=>hi-x) (λx hx=>?_) lo ⟨aV _,h0⟩ (PS.le.refl _);rcases Nat.lt_or_eq_of_le hx.2 with iE|heq
 .exact Sp.adX (x+1) (go x hx iE) ⟨ae,ae⟩ ae (PS.le.refl _)
 .subst heq
  exact Sp.adY (out hx) he (PS.le.refl _)
def iu(z:Int)(h:-9223372036854775808<=z/\z<=9223372036854775807):Tr P K->Tr P K:=.a (p:=ky .i64 z) h
def pr(z:Int)(h:0<=z/\z<=18446744073709551615):Tr P K->Tr P K:=.a (p:=ky .u64 z) h
def iX(z:Int)(n:Nat)(h:0<=z/\z<n):Tr P K->Tr P K:=.a h
def tB(d:Nat){a b:Bool}(h:a=b):Tr P K->Tr P K:=.o d (PV.le.bool h)
def tT(d:Nat)(p:Prop)[Decidable p](h:p):Tr P K->Tr P K:=.o d (PV.le.bool (aT h))
def tF(d:Nat)(p:Prop)[Decidable p](h:¬p):Tr P K->Tr P K:=.o d (PV.le.bool (aU h))
theorem u7{b:Bool}(h:b=true):(!b)=false:=by rw[h];rfl
theorem u6{b:Bool}(h:b=false):(!b)=true:=by rw[h];rfl
def rQ(p q:E)(h:p=q):Tr P K:=.r (E.le.iS h)
def rR(q:E){p:E}(h:E.le p q):Tr P K:=.r h
def chain(l:List (Tr P K->Tr P K))(t:Tr P K):Tr P K:=l.foldr (λf t=>f t) t
end
end Go.Proofs.YtkjkcjhacddojaaGreatDoor.Pu
namespace Go.Proofs.YtkjkcjhacddojaaGreatDoor
open Go.RowKit Fp Pu
theorem tr(nl:Bool){f:FuncId}{fn:Func}{args:List E}{jZ:E}(wM:∀ (vs:Array Value) (w:World),(callFunc f vs).run prog w = .ok (.enter f vs) w)
 (hf:prog.funcs[f]? = some fn) (t:Tr prog Tb) (h:Ox TT fn nl args jZ t=t.ex λ_=>.a (E.le jZ jZ) .nil):gW f args jZ:=
 PC.Pd KA mixed PH wM hf nl t h
theorem iC{c:Code}{σ τ:PS}{e:Ex}(t:Tr prog Tb)(h:vh TT c σ t (EB e τ)=t.ex λt=>D4 τ t .nil):
 Sp prog Tb c σ (λe' τ'=>e'=e/\τ'=τ):=Sp.tr KA mixed t h
abbrev jv(k:Nat)(fn:Func)(σ:PS)(e:Ex)(τ:PS):Prop:=Sp prog Tb (.loop (aa0 k fn)) σ (λe' τ'=>e'=e/\τ'=τ)
def UF(nl:Bool)(n N:Nat)(el:Nat->Nat->E)(g:FuncId)(cap:List E)(i:Nat):PS:=⟨19,false,[(8,.e (iP i)),(7,.e (iP n)),(0,.e (.sl nl n 1 el)),(1,.e (.fn g cap))],[]⟩
def UE(nl:Bool)(n:Nat)(el:Nat->Nat->E)(g:FuncId)(cap:List E)(i:Nat):PS:=⟨19,false,[(8,.e (iP i)),(7,.e (iP n)),(0,.e (.sl nl n 1 el)),(1,.e (.fn g cap))],[]⟩
def U1(nl:Bool)(n:Nat)(el:Nat->Nat->E)(g:FuncId)(cap:List E)(i:Nat):PS:=⟨19,false,[(8,.e (iP i)),(7,.e (iP n)),(0,.e (.sl nl n 1 el)),(1,.e (.fn g cap))],[]⟩
def US(nl:Bool)(n N:Nat)(el:Nat->Nat->E)(g:FuncId)(cap:List E)(i:Nat):PS:=⟨19,false,[(8,.e (iP i)),(7,.e (iP n)),(0,.e (.sl nl n 7 el)),(1,.e (.fn g cap))],[]⟩
def UR(nl:Bool)(n:Nat)(el:Nat->Nat->E)(g:FuncId)(cap:List E)(i:Nat):PS:=⟨19,false,[(8,.e (iP i)),(7,.e (iP n)),(0,.e (.sl nl n 7 el)),(1,.e (.fn g cap))],[]⟩
def XF(nl:Bool)(n:Nat)(el:Nat->Nat->E)(g:FuncId)(cap:List E)(i:Nat):PS:=⟨19,false,[(8,.e (iP i)),(7,.e (iP n)),(0,.e (.sl nl n 1 el)),(1,.e (.fn g cap))],[]⟩
theorem qx{p:Nat->Bool}{n:Nat}(h:∃ i,i<n/\p i=true):∃ N,N<n/\p N=true/\∀ i,i<N->p i=false:=by
 induction n with
 |zero=>obtain⟨i,h1,_⟩:=h;omega
 |succ n ih=>
  by_cases hn:∃ i,i<n/\p i=true
  .obtain ⟨N,h1,h2,h3⟩:=ih hn;exact⟨N,ae,h2,h3⟩
  .obtain ⟨i,h1,h2⟩:=h
   have:i=n:=by
    by_cases q:i=n
    .exact q
    .exact absurd ⟨i,ae,h2⟩ hn
   subst this;exact⟨i,h1,h2,λj hj=>by simpa using λq=>hn ⟨j,hj,q⟩⟩
theorem agb(nl:Bool)(n:Nat)(el:Nat->Nat->E)(g:FuncId)(cap:List E)(p:Nat->Bool)(hp:∀ i,i<n->gW g ((el i 0)::cap) (bP (p i)))(N:Nat)(hl:n<=1000000)(mz:N<n)(iI:∀ i,i<N->p i=false)(hN:p N=true):gW 284 [.sl nl n 1 el,.fn g cap] (iP N):=
 tr false call284 func284 (chain [.s (Sp.jy (UF nl n N el g cap) 0 N ae (λi hi pN=>by
    exact iC (chain [tT 9 ((i:Int)<n) ae,iX ((i:Int)) (n) ae,.c (hp i ae:gW g ((el i 0)::cap) _),tB 16 (iI i ae:(p i)=false),iu ((i:Int)+1) ae]<|.nil) ah)
  (λhi=>by
    exact iC (chain [tT 9 ((N:Int)<n) ae,iX ((N:Int)) (n) ae,.c (hp N ae:gW g ((el N 0)::cap) _),tB 16 (hN:(p N)=true)]<|.nil) ah) ak:jv 2 f284 (UF nl n N el g cap 0) .ret ⟨19,false,[(4,.e (iP N))],[]⟩) .nil]<|.nil) ah 
theorem agd(nl:Bool)(n:Nat)(el:Nat->Nat->E)(g:FuncId)(cap:List E)(p:Nat->Bool)(hp:∀ i,i<n->gW g ((el i 0)::cap) (bP (p i)))(hl:n<=1000000)(iI:∀ i,i<n->p i=false):gW 284 [.sl nl n 1 el,.fn g cap] (iP (-1)):=
 tr false call284 func284 (chain [.s (Sp.jy (UE nl n el g cap) 0 n ae (λi hi pN=>by
    exact iC (chain [tT 9 ((i:Int)<n) ae,iX ((i:Int)) (n) ae,.c (hp i ae:gW g ((el i 0)::cap) _),tB 16 (iI i ae:(p i)=false),iu ((i:Int)+1) ae]<|.nil) ah)
  (λhi=>by
    exact iC (chain [tF 9 ((n:Int)<n) ae]<|.nil) ah) ak:jv 2 f284 (UE nl n el g cap 0) (.exit 0) ⟨19,false,[],[]⟩) .nil]<|.nil) ah 
theorem agc(nl:Bool)(n:Nat)(el:Nat->Nat->E)(g:FuncId)(cap:List E)(p:Nat->Bool)(hp:∀ i,i<n->gW g ((el i 0)::cap) (bP (p i)))(N:Nat)(hl:n<=1000000)(mz:N<n)(iI:∀ i,i<N->p i=false)(hN:p N=true):gW 232 [.sl nl n 1 el,.fn g cap] (bP true):=
 tr false call232 func232 (chain [.c (agb nl n el g cap p hp N hl mz iI hN:gW 284 [(.sl nl n 1 el),(.fn g cap)] _),tT 8 (0<=(N:Int)) ae]<|.nil) ah 
theorem M9(nl:Bool)(n:Nat)(el:Nat->Nat->E)(g:FuncId)(cap:List E)(p:Nat->Bool)(hp:∀ i,i<n->gW g ((el i 0)::cap) (bP (p i)))(hl:n<=1000000)(iI:∀ i,i<n->p i=false):gW 232 [.sl nl n 1 el,.fn g cap] (bP false):=
 tr false call232 func232 (chain [.c (agd nl n el g cap p hp hl iI:gW 284 [(.sl nl n 1 el),(.fn g cap)] _),tB 8 (ag:(decide ((0:Int)<=(-1)))=false)]<|.nil) ah 
theorem aga(nl:Bool)(n:Nat)(el:Nat->Nat->E)(g:FuncId)(cap:List E)(p:Nat->Bool)(hp:∀ i,i<n->gW g ((el i 0)::cap) (bP (p i)))(hl:n<=1000000):gW 232 [.sl nl n 1 el,.fn g cap] (bP ((List.range n).any p)):=by
 by_cases h:∃ i,i<n/\p i=true
 .obtain ⟨N,h1,h2,h3⟩:∃ N,N<n/\p N=true/\∀ i,i<N->p i=false:=qx h
  refine(agc nl n el g cap p hp N hl h1 h3 h2).jZ (.iS ?_);rw[dk.2 ⟨N,bI.2 h1,h2⟩]
 .refine (M9 nl n el g cap p hp hl λi hi=>by simpa using λq=>h ⟨i,hi,q⟩).jZ (.iS ?_)
  rw[dM.2 λi hi q=>h ⟨i,bI.1 hi,q⟩]
theorem agX(nl:Bool)(n:Nat)(el:Nat->Nat->E)(g:FuncId)(cap:List E)(p:Nat->Bool)(hp:∀ i,i<n->gW g ((el i 0)::cap) (bP (p i)))(hl:n<=1000000)(iI:∀ i,i<n->p i=false):gW 358 [.sl nl n 1 el,.fn g cap] (iP (-1)):=
 tr false call358 func358 (chain [.s (Sp.jy (U1 nl n el g cap) 0 n ae (λi hi pN=>by
    exact iC (chain [tT 9 ((i:Int)<n) ae,iX ((i:Int)) (n) ae,.c (hp i ae:gW g ((el i 0)::cap) _),tB 16 (iI i ae:(p i)=false),iu ((i:Int)+1) ae]<|.nil) ah)
  (λhi=>by
    exact iC (chain [tF 9 ((n:Int)<n) ae]<|.nil) ah) ak:jv 2 f358 (U1 nl n el g cap 0) (.exit 0) ⟨19,false,[],[]⟩) .nil]<|.nil) ah 
theorem U4(nl:Bool)(n:Nat)(el:Nat->Nat->E)(g:FuncId)(cap:List E)(p:Nat->Bool)(hp:∀ i,i<n->gW g ((el i 0)::cap) (bP (p i)))(hl:n<=1000000)(iI:∀ i,i<n->p i=false):gW 309 [.sl nl n 1 el,.fn g cap] (bP false):=
 tr false call309 func309 (chain [.c (agX nl n el g cap p hp hl iI:gW 358 [(.sl nl n 1 el),(.fn g cap)] _),tB 8 (ag:(decide ((0:Int)<=(-1)))=false)]<|.nil) ah 
theorem agu(nl:Bool)(n:Nat)(el:Nat->Nat->E)(g:FuncId)(cap:List E)(p:Nat->Bool)(hp:∀ i,i<n->gW g ((.agg [(el i 0),(el i 1),(el i 2),(el i 3),(el i 4),(el i 5),(el i 6)])::cap) (bP (p i)))(N:Nat)(hl:n<=1000000)(mz:N<n)(iI:∀ i,i<N->p i=false)(hN:p N=true):gW 87 [.sl nl n 7 el,.fn g cap] (iP N):=
 tr false call87 func87 (chain [.s (Sp.jy (US nl n N el g cap) 0 N ae (λi hi pN=>by
    exact iC (chain [tT 9 ((i:Int)<n) ae,iX ((i:Int)) (n) ae,.c (hp i ae:gW g ((.agg [(el i 0),(el i 1),(el i 2),(el i 3),(el i 4),(el i 5),(el i 6)])::cap) _),tB 16 (iI i ae:(p i)=false),iu ((i:Int)+1) ae]<|.nil) ah)
  (λhi=>by
    exact iC (chain [tT 9 ((N:Int)<n) ae,iX ((N:Int)) (n) ae,.c (hp N ae:gW g ((.agg [(el N 0),(el N 1),(el N 2),(el N 3),(el N 4),(el N 5),(el N 6)])::cap) _),tB 16 (hN:(p N)=true)]<|.nil) ah) ak:jv 2 Tryz.f87 (US nl n N el g cap 0) .ret ⟨19,false,[(4,.e (iP N))],[]⟩) .nil]<|.nil) ah 
theorem agw(nl:Bool)(n:Nat)(el:Nat->Nat->E)(g:FuncId)(cap:List E)(p:Nat->Bool)(hp:∀ i,i<n->gW g ((.agg [(el i 0),(el i 1),(el i 2),(el i 3),(el i 4),(el i 5),(el i 6)])::cap) (bP (p i)))(hl:n<=1000000)(iI:∀ i,i<n->p i=false):gW 87 [.sl nl n 7 el,.fn g cap] (iP (-1)):=
 tr false call87 func87 (chain [.s (Sp.jy (UR nl n el g cap) 0 n ae (λi hi pN=>by
    exact iC (chain [tT 9 ((i:Int)<n) ae,iX ((i:Int)) (n) ae,.c (hp i ae:gW g ((.agg [(el i 0),(el i 1),(el i 2),(el i 3),(el i 4),(el i 5),(el i 6)])::cap) _),tB 16 (iI i ae:(p i)=false),iu ((i:Int)+1) ae]<|.nil) ah)
  (λhi=>by
    exact iC (chain [tF 9 ((n:Int)<n) ae]<|.nil) ah) ak:jv 2 Tryz.f87 (UR nl n el g cap 0) (.exit 0) ⟨19,false,[],[]⟩) .nil]<|.nil) ah 
theorem agv(nl:Bool)(n:Nat)(el:Nat->Nat->E)(g:FuncId)(cap:List E)(p:Nat->Bool)(hp:∀ i,i<n->gW g ((.agg [(el i 0),(el i 1),(el i 2),(el i 3),(el i 4),(el i 5),(el i 6)])::cap) (bP (p i)))(N:Nat)(hl:n<=1000000)(mz:N<n)(iI:∀ i,i<N->p i=false)(hN:p N=true):gW 40 [.sl nl n 7 el,.fn g cap] (bP true):=
 tr false call40 func40 (chain [.c (agu nl n el g cap p hp N hl mz iI hN:gW 87 [(.sl nl n 7 el),(.fn g cap)] _),tT 8 (0<=(N:Int)) ae]<|.nil) ah 
theorem BT(nl:Bool)(n:Nat)(el:Nat->Nat->E)(g:FuncId)(cap:List E)(p:Nat->Bool)(hp:∀ i,i<n->gW g ((.agg [(el i 0),(el i 1),(el i 2),(el i 3),(el i 4),(el i 5),(el i 6)])::cap) (bP (p i)))(hl:n<=1000000)(iI:∀ i,i<n->p i=false):gW 40 [.sl nl n 7 el,.fn g cap] (bP false):=
 tr false call40 func40 (chain [.c (agw nl n el g cap p hp hl iI:gW 87 [(.sl nl n 7 el),(.fn g cap)] _),tB 8 (ag:(decide ((0:Int)<=(-1)))=false)]<|.nil) ah 
theorem Ni(nl:Bool)(n:Nat)(el:Nat->Nat->E)(g:FuncId)(cap:List E)(p:Nat->Bool)(hp:∀ i,i<n->gW g ((.agg [(el i 0),(el i 1),(el i 2),(el i 3),(el i 4),(el i 5),(el i 6)])::cap) (bP (p i)))(hl:n<=1000000):gW 40 [.sl nl n 7 el,.fn g cap] (bP ((List.range n).any p)):=by
 by_cases h:∃ i,i<n/\p i=true
 .obtain ⟨N,h1,h2,h3⟩:∃ N,N<n/\p N=true/\∀ i,i<N->p i=false:=qx h
  refine(agv nl n el g cap p hp N hl h1 h3 h2).jZ (.iS ?_);rw[dk.2 ⟨N,bI.2 h1,h2⟩]
 .refine (BT nl n el g cap p hp hl λi hi=>by simpa using λq=>h ⟨i,hi,q⟩).jZ (.iS ?_)
  rw[dM.2 λi hi q=>h ⟨i,bI.1 hi,q⟩]
theorem akz(nl:Bool)(n:Nat)(el:Nat->Nat->E)(g:FuncId)(cap:List E)(p:Nat->Bool)(hp:∀ i,i<n->gW g ((el i 0)::cap) (bP (p i)))(hl:n<=1000000)(iI:∀ i,i<n->p i=false):gW 240 [.sl nl n 1 el,.fn g cap] (iP (-1)):=
 tr false call240 func240 (chain [.s (Sp.jy (XF nl n el g cap) 0 n ae (λi hi pN=>by
    exact iC (chain [tT 9 ((i:Int)<n) ae,iX ((i:Int)) (n) ae,.c (hp i ae:gW g ((el i 0)::cap) _),tB 16 (iI i ae:(p i)=false),iu ((i:Int)+1) ae]<|.nil) ah)
  (λhi=>by
    exact iC (chain [tF 9 ((n:Int)<n) ae]<|.nil) ah) ak:jv 2 f240 (XF nl n el g cap 0) (.exit 0) ⟨19,false,[],[]⟩) .nil]<|.nil) ah 
theorem akx(nl:Bool)(n:Nat)(el:Nat->Nat->E)(g:FuncId)(cap:List E)(p:Nat->Bool)(hp:∀ i,i<n->gW g ((el i 0)::cap) (bP (p i)))(hl:n<=1000000)(iI:∀ i,i<n->p i=false):gW 163 [.sl nl n 1 el,.fn g cap] (bP false):=
 tr false call163 func163 (chain [.c (akz nl n el g cap p hp hl iI:gW 240 [(.sl nl n 1 el),(.fn g cap)] _),tB 8 (ag:(decide ((0:Int)<=(-1)))=false)]<|.nil) ah 
end Go.Proofs.YtkjkcjhacddojaaGreatDoor
