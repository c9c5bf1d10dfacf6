/- Texts: Wd We Wf Wg Wh Ti Wi Wj Wk Wl Wm Wn Wo Wp Wq St Num Tj Nc Wt Wu Wv Kd Pr Tt Pt Mu Pv Ad Ae Af Ps Rn Rs Rk Rl Ke Sm Pw Iv Iw Ix Ey Ip Pz Cv Cz Ja Jb Uc. -/
import Derived.Test.YtdgnpeddgdclhaaGreatDoorM01
import Derived.Deep.DeepCutAuto
import Derived.Deep.Slices
import Derived.Carry
import Derived.Scope
set_option linter.unusedSimpArgs false
set_option linter.unusedVariables false
set_option linter.defProp false
set_option maxHeartbeats 4000000
namespace Go.Proofs.YtdgnpeddgdclhaaGreatDoor
open Go.RowKit Fp
theorem H9(g:Nat)(A:Option Addr)(n c:Nat)(w:World)(b:Bool)(h:w.cell? ⟨g,0,none⟩=some (.slice A n c))(hb:b=decide (256<n)):
 Calls Tryz.prog 164 #[.slice (some ⟨g,0,none⟩) 1 1] w fun e w'=>e = .returned (.bool b)/\w=w':=by
 have:=Ot g [(A,n,c)] w (fun i x hx=>by
  obtain⟨h1,h2⟩:=bA.1 hx;obtain rfl:i=0:=by simp at h1;omega
  simp at h2;subst h2;exact h) aj 
 simpa[rD,hb]using this
theorem Oq(g:Nat)(A B:Option Addr)(n c m d:Nat)(w:World)(b:Bool)(h:w.cell? ⟨g,0,none⟩=some (.slice A n c))(k:w.cell? ⟨g,1,none⟩=some (.slice B m d))(hb:b=(decide (256<n)||decide (256<m))):
 Calls Tryz.prog 164 #[.slice (some ⟨g,0,none⟩) 2 2] w fun e w'=>e = .returned (.bool b)/\w=w':=by
 have:=Ot g [(A,n,c),(B,m,d)] w (fun i x hx=>by
  obtain⟨h1,h2⟩:=bA.1 hx;simp at h1;rcases i with _|_|i
  .simp at h2;subst h2;exact h
  .simp at h2;subst h2;exact k
  .omega) aj 
 simpa[rD,hb]using this
theorem Bh(A:Option Addr)(c:Nat)(L:List Nat)(w:World)(hs:Sl w A c L)(hl:(dZ L).length<=256):
 Calls Tryz.prog 165 #[.slice A L.length c] w (w8 w (dZ L) 0):=by
 have hT:=Lib.hid (pO A c L w hs);have fX:=hs.trim;have hC:=hs.cap;have hL:=hs.lq;have H2:=Lib.hid (fun w' (h:Sl w' A c (dZ L))=>Fs A c (dZ L) w' h);generalize dZ L=M at *
 obtain⟨n,hn⟩:∃ n,n=M.length:=⟨_,rfl⟩
 rw[<-hn]at hT hl H2;have HN:=Lib.hid hn;clear hn;go_enter Tryz.func165,Tryz.ntmps165;go_wp2_with fail;refine hT.out.mono ?_;rintro e w' ⟨rfl,rfl⟩;go_wp2_with fail;refine(H9 _ A n c _ false ?_ av).mono ?_
 .go_simp
 rintro e w' ⟨rfl,rfl⟩;go_wp2_with fail;refine(H2.out _ (fX.alloc _)).mono ?_;rintro e w' ⟨rfl,rfl⟩;go_wp2;go_ret2;exact⟨A,n,by rw[HN.out];rfl,by have:=fX.clip.alloc (.cells #[.slice A n c] 29);rw[HN.out]at this ⊢;exact this,Ext.alloc _ _⟩
theorem u64_or_nat(a b:Nat)(ha:a<18446744073709551616)(hb:b<18446744073709551616):bits .or .u64 (a:Int) (b:Int)=((a ||| b:Nat):Int):=by
 have hx:a ||| b<2^64:=Nat.or_lt_two_pow ae ae 
 have h1:(BitVec.ofInt 64 (a:Int)).toNat=a:=by
  rw[ahj,ahk];exact bn ae 
 have h2:(BitVec.ofInt 64 (b:Int)).toNat=b:=by
  rw[ahj,ahk];exact bn ae 
 show IntKind.u64.wrap ((BitVec.ofInt 64 (a:Int) ||| BitVec.ofInt 64 (b:Int)).toNat:Int)=_;rw[BitVec.toNat_or,h1,h2,IntKind.wrap_u64];omega
theorem Bq(a b k:Nat)(h:a<2^k):a ||| b*2^k=a+b*2^k:=by
 rw[aQ,Nat.or_comm,<-Nat.two_pow_add_eq_or_of_lt h];omega
theorem Sl.drop{w:World}{A:Option Addr}{c:Nat}{L:List Nat}(h:Sl w A c L)(k:Nat):Sl w (A.map (·.add k)) (c-k) (L.drop k):=
 ⟨by have:=h.cap;rw[dH];omega,aI (cI _ _) h.lq,h.ok.drop k,(fun e=>by
  rcases A with _|ad
  .rw [h.none_ rfl];omega
  .cases e),fun i x hx=>by
  rw[dF]at hx;obtain⟨b,o,rfl,h1,h2⟩:=h.cell _ _ hx;exact⟨b,o+k,by rw[b8,vh],h1,by rw[ck];exact h2⟩⟩
def part(T:List Nat)(k:Nat):List Nat:=T.take k++List.replicate (T.length-k) 0
theorem abJ(T:List Nat):part T 0=List.replicate T.length 0:=by unfold part;simp
theorem abH(T:List Nat):part T T.length=T:=by unfold part;simp
theorem abI(T:List Nat)(k:Nat)(h:k<T.length):(part T k)[k]? = some 0:=by
 unfold part;rw[dG (by rw[bB];omega),bB,ag6,aC ae]
theorem PE(T:List Nat)(k x:Nat)(h:T[k]? = some x):(part T k).set k x=part T (k+1):=by
 obtain⟨h1,rfl⟩:=bA.1 h;unfold part;rw[List.set_append_right _ _ (by rw[bB];omega),bB,cw ae,cW,
  agX h1,show T.length-k=(T.length-(k+1))+1 by omega,List.replicate_succ,List.set_cons_zero,List.append_assoc]
 rfl
theorem aef(x y s:Nat)(hx:x<4294967296)(hy:y<4294967296):
 bits BinOp.or IntKind.u64 (x:Int) ((y:Int)*4294967296)/2^s%4294967296=(((x+4294967296*y)/2^s%4294967296:Nat):Int):=by
 have e:((y:Int)*4294967296)=((y*2^32:Nat):Int):= aj ;rw[e,u64_or_nat x (y*2^32) ae ae,Bq x y 32 ae];simp[aQ]
theorem aeg(x s:Nat):(x:Int)/2^s%4294967296=(((x+4294967296*0)/2^s%4294967296:Nat):Int):=by
 simp
theorem Iq(A:Option Addr)(c:Nat)(L:List Nat)(n:Nat)(w:World)(hs:Sl w A c L)(hlen:L.length<=100000000)(hn:n<=65536):
 Calls Tryz.prog 166 #[.slice A L.length c,.int .i64 n] w (pr w (lX (n%32) ((dZ L).drop (n/32)))):=by
 have hT:=Lib.hid (pO A c L w hs);have fX:=hs.trim;have jC:=ky L;have hC:=fX.cap;have hL:=hs.lq;unfold ig at jC;generalize dZ L=M at *
 obtain⟨m,hm⟩:∃ m,m=M.length:=⟨_,rfl⟩
 rw[<-hm]at hT jC hC;have HM:=Lib.hid hm;clear hm;by_cases h0:m<=n/32
 .go_enter Tryz.func166,Tryz.ntmps166
  go_wp2_with fail;refine hT.out.mono ?_;rintro e w' ⟨rfl,rfl⟩;go_wp2;go_ret;have:M.drop (n/32)=[]:=di (by rw[<-HM.out];exact h0);rw[this];exact⟨none,0,rfl,Sl.nil _,Ext.refl _⟩
 .obtain ⟨ab,ao,rfl,_,_⟩:=fX.at_ (i:=0) (by have:=HM.out;omega)
  have hK:=fX.drop (n/32);have pB:=Lib.hid (show m-n/32=(M.drop (n/32)).length by rw[dH,HM.out]);have nv:n/32<c:= ae ;have kX:=A8 (m-n/32) ae;have ki:0<m-n/32:= ae ;have o0:m-n/32<=100000000:= ae ;generalize M.drop (n/32)=K at *
  simp only[b8,vh]at hK;have uw:=Lib.hid (Ei (n%32) K);have Gi:=Lib.hid (QY (n%32) K);have An:=Lib.hid (uO (n%32) K);generalize lX (n%32) K=T at *
  go_enter Tryz.func166,Tryz.ntmps166;go_wp2_with fail;refine hT.out.mono ?_;rintro e w' ⟨rfl,rfl⟩;go_wp2;go_loopw [25] (fun i wr=>∃ k:Nat,k<=m-n/32/\i = .int .i64 k/\Rw wr w.heap.size (part T k)/\Ext w wr) (fun i _=>m-n/32-(intOf i).toNat)
  case atStart=>
   refine⟨0,bq _,rfl,?_,Ext.alloc _ _⟩;rw[abJ,uw.out,<-pB.out];exact Rw.made _ _
  case round=>
   obtain⟨k,hk,rfl,hR,hb⟩:=hrel;by_cases ek:k<m-n/32
   .have pE:k<K.length:=by have:=pB.out;omega
    obtain⟨ab',ao',e',_,c1⟩:=(hK.below hb).at_ pE;cases e';have hg:=Gi.out k pE;have iL:K[k]<4294967296:=hK.ok.get pE;have HK:=Lib.hid (aM pE);have c3:=hR.cell (abI T k (by have:=uw.out;omega));have c4:=hR.frozen k;by_cases Db:k+1<m-n/32
    .have sZ:k+1<K.length:=by have:=pB.out;omega
     obtain⟨ab',ao',e',_,c2⟩:=(hK.below hb).at_ sZ;cases e';have hy:K.getD (k+1) 0=K[k+1]:=by rw[aF,aM sZ];rfl
     rw[hy]at hg;have lp:K[k+1]<4294967296:=hK.ok.get sZ;have HG:=Lib.hid hg;clear hg hy;generalize K[k]=x at *
     generalize K[k+1]=y at *
     clear pE sZ;go_wp2;go_roundw
     case rel=>
      rw[aef x y (n%32) iL lp];exact⟨k+1, ae,by go_num,by rw[<-PE T k _ HG.out];exact hR.set k _,hb.setCell (aG _) _⟩
     case measure=>simp[intOf];omega
    .have hy:K.getD (k+1) 0=0:=by rw[aF,bu (by have:=pB.out;omega)];rfl
     rw[hy]at hg;have HG:=Lib.hid hg;clear hg hy;generalize K[k]=x at *
     clear pE;go_wp2;go_roundw
     case rel=>
      rw[aeg x (n%32)];exact⟨k+1, ae,by go_num,by rw[<-PE T k _ HG.out];exact hR.set k _,hb.setCell (aG _) _⟩
     case measure=>simp[intOf];omega
   .go_wp2
    go_ret;obtain rfl:k=m-n/32:= ae ;rw[pB.out,<-uw.out,abH]at hR;have:=hR.sl An.out (by have:=uw.out;have:=pB.out;omega);rw[uw.out,<-pB.out]at this;exact⟨_,_,by rw[uw.out,<-pB.out];rfl,this,hb⟩
theorem aed{L:List Nat}(h:ej L)(n:Nat):dZ (lX (n%32) ((dZ L).drop (n/32)))=dN (val L/2^n):=by
 rw[mu (uO _ _),EB h.dZ,kS]
theorem JX(w:World)(A:Option Addr)(n c:Nat):(w.alloc (.cells #[.slice A n c] 29)).cell? ⟨w.heap.size,0,none⟩=some (.slice A n c):=by
 rw[World.cell?_alloc_at _ _ _ _ rfl];rfl
theorem JY(w:World)(A B:Option Addr)(n c m d:Nat):(w.alloc (.cells #[.slice A n c,.slice B m d] 29)).cell? ⟨w.heap.size,0,none⟩=some (.slice A n c):=by
 rw[World.cell?_alloc_at _ _ _ _ rfl];rfl
theorem JZ(w:World)(A B:Option Addr)(n c m d:Nat):(w.alloc (.cells #[.slice A n c,.slice B m d] 29)).cell? ⟨w.heap.size,1,none⟩=some (.slice B m d):=by
 rw[World.cell?_alloc_at _ _ _ _ rfl];rfl
theorem Pb(A:Option Addr)(c:Nat)(L:List Nat)(n:Nat)(w:World)(hs:Sl w A c L)(hlen:L.length<=256)(hn:n<=65536):
 Calls Tryz.prog 127 #[.slice A L.length c,.int .i64 n] w (w8 w (dN (val L/2^n)) 0):=by
 have hf:decide (256<L.length)=false:= av ;have h3:=Lib.hid (aed hs.ok n);have h4:(dZ (lX (n%32) ((dZ L).drop (n/32)))).length<=256:=by
  have h1:=ky (lX (n%32) ((dZ L).drop (n/32)));unfold ig at h1;rw[Ei,dH]at h1;have h2:=ky L;unfold ig at h2;omega
 have H1:=Lib.hid (fun w (h:Sl w A c L)=>Iq A c L n w h ae hn);generalize lX (n%32) ((dZ L).drop (n/32))=T at *
 go_enter Tryz.func127,Tryz.ntmps127;go_wp2_with fail;refine(H9 _ A _ c _ false (JX _ _ _ _) av).mono ?_;rintro e w' ⟨rfl,rfl⟩;go_wp2_with fail;refine(H1.out _ (hs.alloc _)).mono ?_;rintro e w' ⟨A',c',rfl,iK,hb⟩;go_wp2_with fail;refine(Bh A' c' T _ iK h4).mono ?_;rintro e w'' ⟨A'',c'',rfl,mP,jm⟩;go_wp2;go_ret2;rw[<-h3.out];exact⟨A'',c'',rfl,mP,(Ext.alloc _ _).trans (hb.trans jm)⟩
open Go.RowKit Fp
theorem Ic(n c:Nat)(hc:n<=c)(hn:c<=10000000000)(w:World):
 (Instr.makeSlice 29 (.int .i64 (n:Int)) (.int .i64 (c:Int))).run Tryz.prog w = .ok (.slice (some ⟨w.heap.size,0,none⟩) n c) (w.alloc (.cells (jT (List.replicate c 0)).toArray 79)):=by
 obtain⟨i,hi,hz,h1,h2⟩:=info_parts Hg;have hr:=run_make (P:=Tryz.prog) w 29 79 i _ Tryz.underlying29 hi hz .i64 .i64 n c ae ae (by rw[h2];omega) ae;rw[hr,ag0,ag0,h1,bD];refine congrArg (fun cs=>Result.ok (Value.slice (some ⟨w.heap.size,0,none⟩) n c) (w.alloc (.cells cs 79))) ?_;apply Array.ext
 .simp [madeCells,jT]
 .intro i h1 h2
  simp[madeCells,jT,Value.cells,cF]
theorem Ow.made(w:World)(base n c:Nat)(hb:base<=w.heap.size)(hc:n<=c)(hn:c<=10000000000):
 Ow (w.alloc (.cells (jT (List.replicate c 0)).toArray 79)) base (.slice (some ⟨w.heap.size,0,none⟩) n c) (List.replicate n 0):=
 ⟨⟨by simp[jT],.inr ⟨w.heap.size,c,_, aj,hb,heap_alloc_new w _,by simpa using hc,by simp only[maxLen];omega,by simp[jT],by
  simp[jT,List.take_replicate,cw hc]⟩⟩,ej.yW n⟩
theorem Ext.own{w w1 w2:World}(h:Ext w w1)(v:Value)(L:List Nat)(ho:Ow w1 w.heap.size v L)(hg:w1.grownBy w2 v.ownBlock):Ext w w2:=
 h.grown hg h.size (fun k hk=>(ho.row.lt k hk).1)
theorem Jo(x q s:Nat)(hx:x<4294967296)(hs:s<32)(hq:q<2^s):
 bits BinOp.or IntKind.u64 (IntKind.u64.wrap ((x:Int)*2^s)) (q:Int)=((x*2^s+q:Nat):Int)/\x*2^s+q<18446744073709551616/\(x*2^s+q)/4294967296<2^s:=by
 have hp:2^s<=2^31:=aR ag ae;have e31:(2:Nat)^31=2147483648:= ag ;have h1:(x+1)*2^s<=4294967296*2^s:=a6 _ hx;rw[aO,aK]at h1;have h2:x*2^s<4294967296*2^s:=ca hx (aJ ag);refine⟨?_, ae, ae⟩;have e:((x:Int)*2^s)=((x*2^s:Nat):Int):= aj ;rw[e,IntKind.wrap_u64,show((x*2^s:Nat):Int)%18446744073709551616=((x*2^s:Nat):Int)by omega,u64_or_nat _ _ ae ae,Nat.or_comm,Bq q x s hq,Nat.add_comm]
theorem Pf(A:Option Addr)(c:Nat)(L:List Nat)(n:Nat)(w:World)(hs:Sl w A c L)(hlen:L.length<=100000000)(hn:n<=65536):
 Calls Tryz.prog 204 #[.slice A L.length c,.int .i64 n] w (fun e w'=>∃ T,val T=val L*2^n/\ej T/\T.length=n/32+(dZ L).length+1/\pr w T e w'):=by
 have hT:=Lib.hid (pO A c L w hs);have fX:=hs.trim;have jC:=ky L;have hC:=fX.cap;have hL:=hs.lq;unfold ig at jC;have hv:=Lib.hid (kS L);generalize dZ L=M at *
 obtain⟨m,hm⟩:∃ m,m=M.length:=⟨_,rfl⟩
 rw[<-hm]at hT jC hC;have HM:=Lib.hid hm;clear hm;have kX:=Ic (n/32) (n/32+m+1) ae ae;rw[show((n/32:Nat):Int)=(n:Int)/32 by omega,show((n/32+m+1:Nat):Int)=(n:Int)/32+m+1 by omega]at kX;have Al:=Lib.hid (Ow.made w w.heap.size (n/32) (n/32+m+1) (aG _) ae ae);go_enter Tryz.func204,Tryz.ntmps204;go_wp2_with fail;refine hT.out.mono ?_;rintro e w' ⟨rfl,rfl⟩;go_wp2;go_loopw [5,6,23] (fun v cy i wr=>∃ (k q:Nat) (O:List Nat),k<=m/\i = .int .i64 k/\cy = .int .u64 q/\q<2^(n%32)/\O.length=n/32+k/\val O+4294967296^(n/32+k)*q=val (M.take k)*2^(n%32)*4294967296^(n/32)/\Ow wr w.heap.size v O/\Ext w wr) (fun _ _ i _=>m-(intOf i).toNat)
 case atStart=>
  exact⟨0,0,List.replicate (n/32) 0,bq _,rfl,rfl,aJ ag, aj,by simp[vc],Al.out,Ext.alloc _ _⟩
 case round=>
  obtain⟨k,q,O,hk,rfl,rfl,hq,hO,gM,gy,hb⟩:=hrel;have HV:=Lib.hid gM;have HO:=Lib.hid hO;have Ak:O.length<=200000000:= ae ;have qt:=Lib.hid hq;clear gM hO hq;obtain⟨OA,Oc,rfl,vS⟩:=gy.sl;by_cases ek:k<m
  .have kD:k<M.length:=by have:=HM.out;omega
   obtain⟨ab,ao,rfl,_,c1⟩:=(fX.below hb).at_ kD;have iL:M[k]<4294967296:=fX.ok.get kD;have HX:=Lib.hid (Jn (c:=q) (s:=n%32) (n0:=n/32) kD HO.out HV.out);generalize M[k]=x at *
   obtain⟨hw,AO,se⟩:=Jo x q (n%32) iL (aS _ ag) qt.out;generalize x*2^(n%32)+q=z at *
   have AP:=Lib.hid se;clear se;have ie:O.length+[z%4294967296].length<=10000000000:= av ;go_wp2_with (at_builtin;go_must (refine mU ai _ _ ai w.heap.size _ O ai (gy.alloc _) _ _ _ [z%4294967296] ai ai (Sl.pn _ _ (z%4294967296) ae ae) ie (lQ hb.size _) ?_);intro v' w1 jY hg kB)
   go_roundw
   case rel=>
    exact⟨k+1,z/4294967296,O++[z%4294967296], ae,by go_num,by go_num,AP.out,by rw[bO,HO.out];rfl,HX.out,jY,(hb.trans (Ext.alloc _ _)).own _ _ (gy.alloc _) hg⟩
   case measure=>simp[intOf];omega
  .obtain rfl:k=m:= ae 
   have ie:O.length+[q].length<=10000000000:= av ;have Dk:q<4294967296:=by
    have:=qt.out;have hp:2^(n%32)<=2^31:=aR ag ae;have e31:(2:Nat)^31=2147483648:= ag ;omega
   have Nl:(q:Int)%4294967296=q:= ae ;go_wp2_with (at_builtin;go_must (refine mU ai _ _ ai w.heap.size _ O ai (gy.alloc _) _ _ _ [q] ai ai (Sl.pn _ _ q ae ae) ie (lQ hb.size _) ?_);intro v' w1 jY hg kB)
   obtain⟨A',c',rfl,iK⟩:=jY.sl;go_ret;refine⟨O++[q],?_,iK.ok,by rw[bO,HO.out,<-HM.out];rfl,A',c',rfl,iK,(hb.trans (Ext.alloc _ _)).own _ _ (gy.alloc _) hg⟩;have h:=HV.out;rw[bU (by rw[HM.out];exact aG _)]at h;rw[pX,HO.out,lZ,tS,bQ,bd,h,<-hv.out,kQ,aP,<-aH];congr 2;omega
theorem O8(A:Option Addr)(c:Nat)(L:List Nat)(n:Nat)(w:World)(hs:Sl w A c L)(hlen:L.length<=256)(hn:n<=65536)(jV:(dN (val L*2^n)).length<=256):
 Calls Tryz.prog 168 #[.slice A L.length c,.int .i64 n] w (w8 w (dN (val L*2^n)) 0):=by
 have H1:=Lib.hid (fun w (h:Sl w A c L)=>Pf A c L n w h ae hn);obtain⟨R,hR⟩:∃ R,R=dN (val L*2^n):=⟨_,rfl⟩
 rw[<-hR]at jV ⊢;have HR:=Lib.hid hR;clear hR;go_enter Tryz.func168,Tryz.ntmps168;go_wp2_with fail;refine(H9 _ A _ c _ false (JX _ _ _ _) av).mono ?_;rintro e w' ⟨rfl,rfl⟩;go_wp2_with fail;refine(H1.out _ (hs.alloc _)).mono ?_;rintro e w' ⟨T,hT,An,-,A',c',rfl,iK,hb⟩;have h3:=Lib.hid (show dZ T=R by rw[mu An,hT,HR.out]);clear hT An;go_wp2_with fail;refine(Bh A' c' T _ iK (by rw[h3.out];exact jV)).mono ?_;rintro e w'' ⟨A'',c'',rfl,mP,jm⟩;go_wp2;go_ret2;rw[<-h3.out];exact⟨A'',c'',rfl,mP,(Ext.alloc _ _).trans (hb.trans jm)⟩
theorem ad8(A:Option Addr)(c:Nat)(L:List Nat)(n:Nat)(w:World)(hs:Sl w A c L)(hlen:L.length<=256)(hn:n<=65536)(jV:(dN (val L*2^n)).length<=256):
 Calls Tryz.prog 132 #[.slice A L.length c,.int .i64 n] w (pr w (dN (val L*2^n))):=by
 have H1:=Lib.hid (O8 A c L n w hs hlen hn jV);generalize dN (val L*2^n)=R at *
 go_enter Tryz.func132,Tryz.ntmps132;go_wp2_with fail;refine H1.out.mono ?_;rintro e w'' ⟨A'',c'',rfl,mP,jm⟩;go_wp2;go_ret;exact⟨A'',c'',rfl,mP,jm⟩
open Go.RowKit Fp
theorem u64_and_nat(a b:Nat)(ha:a<18446744073709551616)(hb:b<18446744073709551616):bits .and .u64 (a:Int) (b:Int)=((a &&& b:Nat):Int):=by
 have hx:a &&& b<2^64:=agQ _ ae;have h1:(BitVec.ofInt 64 (a:Int)).toNat=a:=by
  rw[ahj,ahk];exact bn ae 
 have h2:(BitVec.ofInt 64 (b:Int)).toNat=b:=by
  rw[ahj,ahk];exact bn ae 
 show IntKind.u64.wrap ((BitVec.ofInt 64 (a:Int) &&& BitVec.ofInt 64 (b:Int)).toNat:Int)=_;rw[BitVec.toNat_and,h1,h2,IntKind.wrap_u64];omega
theorem sK(z:Nat)(hz:z<18446744073709551616):bits BinOp.and IntKind.u64 (z:Int) 4294967295=(z:Int)%4294967296:=by
 have e:(4294967295:Int)=((4294967295:Nat):Int):=rfl;rw[e,u64_and_nat z _ hz ae,show(4294967295:Nat)=2^32-1 by decide,ahq];simp
theorem ada(A:Option Addr)(c:Nat)(M:List Nat)(n:Nat)(w:World)(fX:Sl w A c M)(hlen:M.length<=1000)(hn:n<=65536):
 Calls Tryz.prog 148 #[.slice A M.length c,.int .i64 n] w (pr w (dN (val M*2^n))):=by
 have hC:=fX.cap;have hL:=fX.lq;obtain⟨m,hm⟩:∃ m,m=M.length:=⟨_,rfl⟩
 rw[<-hm]at hlen hC ⊢;have HM:=Lib.hid hm;clear hm;have kX:=Ic (n/32) (n/32) ae ae;rw[show((n/32:Nat):Int)=(n:Int)/32 by omega]at kX;have Al:=Lib.hid (Ow.made w w.heap.size (n/32) (n/32) (aG _) ae ae);go_enter Tryz.func148,Tryz.ntmps148;go_wp2;go_loopw [5,6,7] (fun v cy i wr=>∃ (k q:Nat) (O:List Nat),k<=m/\i = .int .i64 k/\cy = .int .u64 q/\q<2^(n%32)/\O.length=n/32+k/\val O+4294967296^(n/32+k)*q=val (M.take k)*2^(n%32)*4294967296^(n/32)/\Ow wr w.heap.size v O/\Ext w wr) (fun _ _ i _=>m-(intOf i).toNat)
 case atStart=>
  exact⟨0,0,List.replicate (n/32) 0,bq _,rfl,rfl,aJ ag, aj,by simp[vc],Al.out,Ext.alloc _ _⟩
 case round=>
  obtain⟨k,q,O,hk,rfl,rfl,hq,hO,gM,gy,hb⟩:=hrel;have HV:=Lib.hid gM;have HO:=Lib.hid hO;have Ak:O.length<=3100:= ae ;have qt:=Lib.hid hq;clear gM hO hq;obtain⟨OA,Oc,rfl,vS⟩:=gy.sl;by_cases ek:k<m
  .have kD:k<M.length:=by have:=HM.out;omega
   obtain⟨ab,ao,rfl,_,c1⟩:=(fX.below hb).at_ kD;have iL:M[k]<4294967296:=fX.ok.get kD;have HX:=Lib.hid (Jn (c:=q) (s:=n%32) (n0:=n/32) kD HO.out HV.out);generalize M[k]=x at *
   obtain⟨hw,AO,se⟩:=Jo x q (n%32) iL (aS _ ag) qt.out;generalize x*2^(n%32)+q=z at *
   have AP:=Lib.hid se;clear se;have ie:O.length+[z%4294967296].length<=10000000000:= av ;have s8:=sK z AO;go_wp2_with (at_builtin;go_must (refine mU ai _ _ ai w.heap.size _ O ai (gy.alloc _) _ _ _ [z%4294967296] ai ai (Sl.pn _ _ (z%4294967296) ae ae) ie (lQ hb.size _) ?_);intro v' w1 jY hg kB)
   go_roundw
   case rel=>
    exact⟨k+1,z/4294967296,O++[z%4294967296], ae,by go_num,by go_num,AP.out,by rw[bO,HO.out];rfl,HX.out,jY,(hb.trans (Ext.alloc _ _)).own _ _ (gy.alloc _) hg⟩
   case measure=>simp[intOf];omega
  .obtain rfl:k=m:= ae 
   have ie:O.length+[q].length<=10000000000:= av ;have Dk:q<4294967296:=by
    have:=qt.out;have hp:2^(n%32)<=2^31:=aR ag ae;have e31:(2:Nat)^31=2147483648:= ag ;omega
   have Nl:(q:Int)%4294967296=q:= ae ;have re:Hid (dZ (O++[q])=dN (val M*2^n)):=by
    show dZ (O++[q])=dN (val M*2^n);rw[mu (gy.ok.append (ej.cons Dk ej.nil))];have h:=HV.out;rw[bU (by rw[HM.out];exact aG _)]at h;rw[pX,HO.out,lZ,tS,bQ,bd,h,kQ,aP,<-aH];congr 3;omega
   go_wp2_with (at_builtin;go_must (refine mU ai _ _ ai w.heap.size _ O ai (gy.alloc _) _ _ _ [q] ai ai (Sl.pn _ _ q ae ae) ie (lQ hb.size _) ?_);intro v' w1 jY hg kB;obtain⟨P,hP⟩:∃ P,P=O++[q]:=⟨_,rfl⟩;rw[<-hP]at jY re;have CX:P.length<=3101:=(by rw[hP];simp;omega);clear hP;obtain⟨A',c',rfl,iK⟩:=jY.sl)
   refine(yV A' c' P _ iK ae).mono ?_;rintro e w' ⟨A'',c'',rfl,mP,jm⟩;go_wp2;go_ret;rw[<-re.out];exact⟨A'',c'',rfl,mP,((hb.trans (Ext.alloc _ _)).own _ _ (gy.alloc _) hg).trans jm⟩
open Go.RowKit Fp
theorem aei(x y s:Nat)(hx:x<4294967296)(hy:y<4294967296):
 bits BinOp.and IntKind.u64 (bits BinOp.or IntKind.u64 (x:Int) ((y:Int)*4294967296)/2^s) 4294967295=(((x+4294967296*y)/2^s%4294967296:Nat):Int):=by
 have e:((y:Int)*4294967296)=((y*2^32:Nat):Int):= aj ;rw[e,u64_or_nat x (y*2^32) ae ae,Bq x y 32 ae];have h:(x+y*2^32)/2^s<18446744073709551616:=bE (bj _ _) ae;have h2:=sK _ h;rw[show(((x+y*2^32:Nat):Int)/2^s)=(((x+y*2^32)/2^s:Nat):Int)by simp,h2];simp[aQ]
theorem aeh(x s:Nat)(hx:x<4294967296):bits BinOp.and IntKind.u64 ((x:Int)/2^s) 4294967295=(((x+4294967296*0)/2^s%4294967296:Nat):Int):=by
 have h:x/2^s<18446744073709551616:=bE (bj _ _) ae;rw[show((x:Int)/2^s)=((x/2^s:Nat):Int)by simp,sK _ h];simp
theorem adi(A:Option Addr)(c:Nat)(M:List Nat)(n:Nat)(w:World)(fX:Sl w A c M)(hlen:M.length<=3000)(hn:n<=100000):
 Calls Tryz.prog 124 #[.slice A M.length c,.int .i64 n] w (pr w (dN (val M/2^n))):=by
 have hC:=fX.cap;have hL:=fX.lq;have re:Hid (dZ (lX (n%32) (M.drop (n/32)))=dN (val M/2^n)):=by
  show _=_;rw[mu (uO _ _),EB fX.ok]
 obtain⟨R,hR⟩:∃ R,R=dN (val M/2^n):=⟨_,rfl⟩
 rw[<-hR]at re ⊢;clear hR;obtain⟨m,hm⟩:∃ m,m=M.length:=⟨_,rfl⟩
 rw[<-hm]at hlen hC ⊢;have HM:=Lib.hid hm;clear hm;by_cases h0:m<=n/32
 .go_enter Tryz.func124,Tryz.ntmps124
  go_wp2;go_ret;have:M.drop (n/32)=[]:=di (by rw[<-HM.out];exact h0);have h:=re.out;rw[this]at h;rw[<-h];exact⟨none,0,rfl,Sl.nil _,Ext.refl _⟩
 .obtain ⟨ab,ao,rfl,_,_⟩:=fX.at_ (i:=0) (by have:=HM.out;omega)
  have hK:=fX.drop (n/32);have pB:=Lib.hid (show m-n/32=(M.drop (n/32)).length by rw[dH,HM.out]);have nv:n/32<c:= ae ;have ki:0<m-n/32:= ae ;have o0:m-n/32<=3000:= ae ;generalize M.drop (n/32)=K at *
  simp only[b8,vh]at hK;have uw:=Lib.hid (Ei (n%32) K);have Gi:=Lib.hid (QY (n%32) K);have An:=Lib.hid (uO (n%32) K);generalize lX (n%32) K=T at *
  go_enter Tryz.func124,Tryz.ntmps124;go_wp2;go_loopw [5,6] (fun v i wr=>∃ (k:Nat) (O:List Nat),k<=m-n/32/\i = .int .i64 k/\O=T.take k/\Ow wr w.heap.size v O/\Ext w wr) (fun _ i _=>m-n/32-(intOf i).toNat)
  case atStart=>
   exact⟨0,[],bq _,rfl, aj,Ow.nil _ _,Ext.refl _⟩
  case round=>
   obtain⟨k,O,hk,rfl,hO,gy,hb⟩:=hrel;have Ak:O.length<=3000:=by rw[hO,bB];omega
   have HO:=Lib.hid hO;clear hO;obtain⟨OA,Oc,rfl,vS⟩:=gy.sl;by_cases ek:k<m-n/32
   .have pE:k<K.length:=by have:=pB.out;omega
    obtain⟨ab',ao',e',_,c1⟩:=(hK.below hb).at_ pE;cases e';have hg:=Gi.out k pE;have iL:K[k]<4294967296:=hK.ok.get pE;have HK:=Lib.hid (aM pE);by_cases Db:k+1<m-n/32
    .have sZ:k+1<K.length:=by have:=pB.out;omega
     obtain⟨ab',ao',e',_,c2⟩:=(hK.below hb).at_ sZ;cases e';have hy:K.getD (k+1) 0=K[k+1]:=by rw[aF,aM sZ];rfl
     rw[hy]at hg;have lp:K[k+1]<4294967296:=hK.ok.get sZ;have HG:=Lib.hid hg;clear hg hy;generalize K[k]=x at *
     generalize K[k+1]=y at *
     clear pE sZ;have hw:=aei x y (n%32) iL lp;have hz:(x+4294967296*y)/2^(n%32)%4294967296<4294967296:=aS _ ag;generalize (x+4294967296*y)/2^(n%32)%4294967296=z at *
     have ie:O.length+[z].length<=10000000000:= av ;go_wp2_with (at_builtin;go_must (refine mU ai _ _ ai w.heap.size _ O ai (gy.alloc _) _ _ _ [z] ai ai (Sl.pn _ _ z ae ae) ie (lQ hb.size _) ?_);intro v' w1 jY hg kB)
     go_roundw
     case rel=>
      exact⟨k+1,O++[z], ae,by go_num,by rw[HO.out,List.take_add_one,HG.out];rfl,jY,(hb.trans (Ext.alloc _ _)).own _ _ (gy.alloc _) hg⟩
     case measure=>simp[intOf];omega
    .have hy:K.getD (k+1) 0=0:=by rw[aF,bu (by have:=pB.out;omega)];rfl
     rw[hy]at hg;have HG:=Lib.hid hg;clear hg hy;generalize K[k]=x at *
     clear pE;have hw:=aeh x (n%32) iL;have hz:(x+4294967296*0)/2^(n%32)%4294967296<4294967296:=aS _ ag;generalize (x+4294967296*0)/2^(n%32)%4294967296=z at *
     have ie:O.length+[z].length<=10000000000:= av ;go_wp2_with (at_builtin;go_must (refine mU ai _ _ ai w.heap.size _ O ai (gy.alloc _) _ _ _ [z] ai ai (Sl.pn _ _ z ae ae) ie (lQ hb.size _) ?_);intro v' w1 jY hg kB)
     go_roundw
     case rel=>
      exact⟨k+1,O++[z], ae,by go_num,by rw[HO.out,List.take_add_one,HG.out];rfl,jY,(hb.trans (Ext.alloc _ _)).own _ _ (gy.alloc _) hg⟩
     case measure=>simp[intOf];omega
   .have X5:Hid (dZ O=R):=by
     show dZ O=R;rw[HO.out,bU (by rw[uw.out,<-pB.out];omega)];exact re.out
    go_wp2_with fail;refine(yV OA Oc O _ vS ae).mono ?_;rintro e w' ⟨A'',c'',rfl,mP,jm⟩;go_wp2;go_ret;rw[<-X5.out];exact⟨A'',c'',rfl,mP,hb.trans jm⟩
open Go.RowKit Fp
theorem uo{L:List Nat}{k:Nat}(h:k<L.length):L.getD k 0=L[k]:=by
 rw[aF,aM h];rfl
theorem xK{L:List Nat}{k:Nat}(h:¬k<L.length):L.getD k 0=0:=by
 rw[aF,bu ae];rfl
theorem adg(A B:Option Addr)(c d:Nat)(L M:List Nat)(w:World)(hs:Sl w A c L)(hr:Sl w B d M)(h1:L.length<=3000)(h2:M.length<=3000):
 Calls Tryz.prog 149 #[.slice A L.length c,.slice B M.length d] w (pr w (dN (val L+val M))):=by
 have HLl:=Lib.hid (rfl:L.length=L.length);obtain⟨l,hl⟩:∃ l,l=L.length:=⟨_,rfl⟩
 obtain⟨m,hm⟩:∃ m,m=M.length:=⟨_,rfl⟩
 rw[<-hl]at h1 ⊢;rw[<-hm]at h2 ⊢;have HL:=Lib.hid hl;have HM:=Lib.hid hm;clear hl hm HLl;go_enter Tryz.func149,Tryz.ntmps149;go_wp2;go_loopw [5,6,7] (fun v cy i wr=>∃ (k q:Nat) (O:List Nat),(k<=l\/k<=m)/\i = .int .i64 k/\cy = .int .u64 q/\q<=1/\O.length=k/\val O+4294967296^k*q=val (L.take k)+val (M.take k)/\Ow wr w.heap.size v O/\Ext w wr) (fun _ _ i _=>3000-(intOf i).toNat)
 case atStart=>exact⟨0,0,[],.inl (bq _),rfl,rfl, ag,rfl, aj,Ow.nil _ _,Ext.refl _⟩
 case round=>
  obtain⟨k,q,O,hk,rfl,rfl,hq,hO,gM,gy,hb⟩:=hrel;have HS:=Lib.hid (Sy (x:=L.getD k 0) (y:=M.getD k 0) hO gM (pY L k) (pY M k));have HV:=Lib.hid gM;have HO:=Lib.hid hO;have Ak:O.length<=3000:= ae ;have GK:k<=3000:= ae ;clear gM hO hk;obtain⟨OA,Oc,rfl,vS⟩:=gy.sl;have s8:=fun z:Nat=>fun h:z<8589934593=>sK z ae 
  by_cases hl:k<l
  .have M7:(k:Int)<l:= ae 
   have pF:k<L.length:=by have:=HL.out;omega
   obtain⟨ab,ao,rfl,_,c1⟩:=(hs.below hb).at_ pF;have iL:L[k]<4294967296:=hs.ok.get pF;rw[uo pF]at HS;generalize L[k]=x at *
   clear pF;by_cases hm:k<m
   .have De:(k:Int)<m:= ae 
    have kD:k<M.length:=by have:=HM.out;omega
    obtain⟨bb,bo,rfl,_,c2⟩:=(hr.below hb).at_ kD;have lp:M[k]<4294967296:=hr.ok.get kD;rw[uo kD]at HS;generalize M[k]=y at *
    clear kD;have kX:=s8 (q+x+y) ae;simp only[ag7]at kX;clear s8;have ie:O.length+[(q+x+y)%4294967296].length<=10000000000:= av ;go_wp2_with (at_builtin;go_must (refine mU ai _ _ ai w.heap.size _ O ai (gy.alloc _) _ _ _ [(q+x+y)%4294967296] ai ai (Sl.pn _ _ ((q+x+y)%4294967296) ae ae) ie (lQ hb.size _) ?_);intro v' w1 jY hg kB)
    go_roundw
    case rel=>
     exact⟨k+1,(q+x+y)/4294967296,O++[(q+x+y)%4294967296], ae,by go_num,by go_num, ae,by rw[bO,HO.out];rfl,HS.out,jY,(hb.trans (Ext.alloc _ _)).own _ _ (gy.alloc _) hg⟩
    case measure=>simp[intOf];omega
   .have De:¬(k:Int)<m:= ae 
    rw[xK (by have:=HM.out;omega)]at HS;have kX:=s8 (q+x+0) ae;simp only[ag7,bd]at kX;clear s8;have ie:O.length+[(q+x+0)%4294967296].length<=10000000000:= av ;go_wp2_with (at_builtin;go_must (refine mU ai _ _ ai w.heap.size _ O ai (gy.alloc _) _ _ _ [(q+x+0)%4294967296] ai ai (Sl.pn _ _ ((q+x+0)%4294967296) ae ae) ie (lQ hb.size _) ?_);intro v' w1 jY hg kB)
    go_roundw
    case rel=>
     exact⟨k+1,(q+x+0)/4294967296,O++[(q+x+0)%4294967296], ae,by go_num,by go_num, ae,by rw[bO,HO.out];rfl,HS.out,jY,(hb.trans (Ext.alloc _ _)).own _ _ (gy.alloc _) hg⟩
    case measure=>simp[intOf];omega
  .have M7:¬(k:Int)<l:= ae 
   have hlF:decide ((k:Int)<l)=false:=by simpa using M7
   rw[xK (L:=L) (by have:=HL.out;omega)]at HS;by_cases hm:k<m
   .have De:(k:Int)<m:= ae 
    have kD:k<M.length:=by have:=HM.out;omega
    obtain⟨bb,bo,rfl,_,c2⟩:=(hr.below hb).at_ kD;have lp:M[k]<4294967296:=hr.ok.get kD;rw[uo kD]at HS;generalize M[k]=y at *
    clear kD;have kX:=s8 (q+0+y) ae;simp only[ag7,bd]at kX;clear s8;have ie:O.length+[(q+0+y)%4294967296].length<=10000000000:= av ;go_wp2_with (at_builtin;go_must (refine mU ai _ _ ai w.heap.size _ O ai (gy.alloc _) _ _ _ [(q+0+y)%4294967296] ai ai (Sl.pn _ _ ((q+0+y)%4294967296) ae ae) ie (lQ hb.size _) ?_);intro v' w1 jY hg kB)
    go_roundw
    case rel=>
     exact⟨k+1,(q+0+y)/4294967296,O++[(q+0+y)%4294967296], ae,by go_num,by go_num, ae,by rw[bO,HO.out];rfl,HS.out,jY,(hb.trans (Ext.alloc _ _)).own _ _ (gy.alloc _) hg⟩
    case measure=>simp[intOf];omega
   .have De:¬(k:Int)<m:= ae 
    clear s8;have Dk:(q:Int)%4294967296=q:= ae ;have re:Hid (dZ (O++[q])=dN (val L+val M)):=by
     show dZ (O++[q])=_;rw[mu (gy.ok.append (ej.cons ae ej.nil)),pX,HO.out];have h:=HV.out;rw[bU (by have:=HL.out;omega),bU (by have:=HM.out;omega)]at h;simp only[lZ,tS,bQ,bd];rw[h]
    have ie:O.length+[q].length<=10000000000:= av ;go_wp2_with (at_builtin;go_must (refine mU ai _ _ ai w.heap.size _ O ai (gy.alloc _) _ _ _ [q] ai ai (Sl.pn _ _ q ae ae) ie (lQ hb.size _) ?_);intro v' w1 jY hg kB;obtain⟨P,hP⟩:∃ P,P=O++[q]:=⟨_,rfl⟩;rw[<-hP]at jY re;have CX:P.length<=3001:=(by rw[hP];simp;omega);clear hP;obtain⟨A',c',rfl,iK⟩:=jY.sl)
    refine(yV A' c' P _ iK ae).mono ?_;rintro e w' ⟨A'',c'',rfl,mP,jm⟩;go_wp2;go_ret;rw[<-re.out];exact⟨A'',c'',rfl,mP,((hb.trans (Ext.alloc _ _)).own _ _ (gy.alloc _) hg).trans jm⟩
theorem aft(x s:Nat)(hx:x<4294967296):bits BinOp.and IntKind.u32 ((x:Int)/2^s) 1=((x/2^s%2:Nat):Int):=by
 have h:x/2^s<4294967296:=bE (bj _ _) ae;rw[show((x:Int)/2^s)=((x/2^s:Nat):Int)by simp,show(1:Int)=((1:Nat):Int)from rfl,bits_and_u32_nat _ _ h ag,Nat.and_one_is_mod]
theorem adt(A:Option Addr)(c:Nat)(L:List Nat)(w:World)(hs:Sl w A c L)(h1:L.length<=3000)(h0:val L≠0):
 Calls Tryz.prog 123 #[.slice A L.length c] w fun e w'=>e = .returned (.int .i64 (fk (val L)))/\w=w':=by
 have hz:=zO hs.ok h0;have HB:=Lib.hid (fun k (hk:k<fk (val L))=>Tz h0 hk);have HE:=Lib.hid (Ty h0);have HV:=Lib.hid (fun k=>TA hs.ok k);generalize fk (val L)=t at *
 go_enter Tryz.func123,Tryz.ntmps123;go_wp2;go_loop [3] (fun i=>∃ k:Nat,k<=t/\i = .int .i64 k) (fun i=>t-(intOf i).toNat)
 case atStart=>exact⟨0,bq _,rfl⟩
 case round=>
  obtain⟨k,hk,rfl⟩:=hrel;have pF:k/32<L.length:= ae ;obtain⟨ab,ao,rfl,_,c1⟩:=hs.at_ pF;have hv:=HV.out k pF;have iL:L[k/32]<4294967296:=hs.ok.get pF;generalize L[k/32]=x at *
  clear HV;have vI:=aft x (k%32) iL;rw[<-hv]at vI;clear hv;by_cases YR:k<t
  .rw [HB.out k YR]at vI
   have hb:(bits BinOp.and IntKind.u32 ((x:Int)/2^(k%32)) 1==0)=true:=by rw[vI];rfl
   clear vI;go_wp2;go_round
   case rel=>exact⟨k+1, ae,by go_num⟩
   case measure=>simp[intOf];omega
  .obtain rfl:k=t:= ae 
   rw[HE.out]at vI;have hb:(bits BinOp.and IntKind.u32 ((x:Int)/2^(k%32)) 1==0)=false:=by rw[vI];rfl
   clear vI;go_wp2;go_ret;exact⟨rfl,rfl⟩
theorem adb(A B:Option Addr)(c d:Nat)(L M:List Nat)(w:World)(hs:Sl w A c L)(hr:Sl w B d M)(h1:L.length<=3000)(h2:M.length<=L.length)(hle:val M<=val L):
 Calls Tryz.prog 151 #[.slice A L.length c,.slice B M.length d] w (pr w (dN (val L-val M))):=by
 obtain⟨l,hl⟩:∃ l,l=L.length:=⟨_,rfl⟩
 obtain⟨m,hm⟩:∃ m,m=M.length:=⟨_,rfl⟩
 rw[<-hl]at h1 h2 ⊢;rw[<-hm]at h2 ⊢;have HL:=Lib.hid hl;have HM:=Lib.hid hm;clear hl hm;have HLE:=Lib.hid hle;clear hle;go_enter Tryz.func151,Tryz.ntmps151;go_wp2;go_loopw [5,6,7] (fun v cy i wr=>∃ (k q:Nat) (O:List Nat),k<=l/\i = .int .i64 k/\cy = .int .u64 q/\q<=1/\O.length=k/\val O+val (M.take k)=val (L.take k)+4294967296^k*q/\Ow wr w.heap.size v O/\Ext w wr) (fun _ _ i _=>l-(intOf i).toNat)
 case atStart=>exact⟨0,0,[],bq _,rfl,rfl, ag,rfl, aj,Ow.nil _ _,Ext.refl _⟩
 case round=>
  obtain⟨k,q,O,hk,rfl,rfl,hq,hO,gM,gy,hb⟩:=hrel;have HS:=Lib.hid (fun(x y:Nat) (e1:L.getD k 0=x) (e2:M.getD k 0=y) (dd c':Nat)=>aeM (x:=x) (y:=y) (d:=dd) (c':=c') hO gM ((pY L k).trans (by rw[e1])) ((pY M k).trans (by rw[e2])));have HV:=Lib.hid gM;have HO:=Lib.hid hO;have Ak:O.length<=3000:= ae ;clear gM hO;obtain⟨OA,Oc,rfl,vS⟩:=gy.sl;by_cases hl:k<l
  .have pF:k<L.length:=by have:=HL.out;omega
   obtain⟨ab,ao,rfl,_,c1⟩:=(hs.below hb).at_ pF;have iL:L[k]<4294967296:=hs.ok.get pF;have HX:=Lib.hid (uo pF);generalize L[k]=x at *
   clear pF;by_cases hm:k<m
   .have kD:k<M.length:=by have:=HM.out;omega
    obtain⟨bb,bo,rfl,_,c2⟩:=(hr.below hb).at_ kD;have lp:M[k]<4294967296:=hr.ok.get kD;have HY:=Lib.hid (uo kD);generalize M[k]=y at *
    clear kD;have kX:=sK (x+4294967296-(q+y)) ae;rw[show((x+4294967296-(q+y):Nat):Int)=(x:Int)+4294967296-(q+y)by omega]at kX;have ie:O.length+[(x+4294967296-(q+y))%4294967296].length<=10000000000:= av ;go_wp2_with (at_builtin;go_must (refine mU ai _ _ ai w.heap.size _ O ai (gy.alloc _) _ _ _ [(x+4294967296-(q+y))%4294967296] ai ai (Sl.pn _ _ ((x+4294967296-(q+y))%4294967296) ae ae) ie (lQ hb.size _) ?_);intro v' w1 jY hg kB)
    go_roundw
    case rel=>
     exact⟨k+1,1-(x+4294967296-(q+y))/4294967296,O++[(x+4294967296-(q+y))%4294967296], ae,by go_num,by rw[show(1-((x:Int)+4294967296-(q+y))/4294967296)=((1-(x+4294967296-(q+y))/4294967296:Nat):Int)by omega], ae,by rw[bO,HO.out];rfl,HS.out x y HX.out HY.out _ _ ae,jY,(hb.trans (Ext.alloc _ _)).own _ _ (gy.alloc _) hg⟩
    case measure=>simp[intOf];omega
   .have De:¬(k:Int)<m:= ae 
    have HY:=Lib.hid (xK (L:=M) (k:=k) (by have:=HM.out;omega));have kX:=sK (x+4294967296-q) ae;rw[show((x+4294967296-q:Nat):Int)=(x:Int)+4294967296-q by omega]at kX;have ie:O.length+[(x+4294967296-q)%4294967296].length<=10000000000:= av ;go_wp2_with (at_builtin;go_must (refine mU ai _ _ ai w.heap.size _ O ai (gy.alloc _) _ _ _ [(x+4294967296-q)%4294967296] ai ai (Sl.pn _ _ ((x+4294967296-q)%4294967296) ae ae) ie (lQ hb.size _) ?_);intro v' w1 jY hg kB)
    go_roundw
    case rel=>
     exact⟨k+1,1-(x+4294967296-q)/4294967296,O++[(x+4294967296-q)%4294967296], ae,by go_num,by rw[show(1-((x:Int)+4294967296-q)/4294967296)=((1-(x+4294967296-q)/4294967296:Nat):Int)by omega], ae,by rw[bO,HO.out];rfl,HS.out x 0 HX.out HY.out _ _ ae,jY,(hb.trans (Ext.alloc _ _)).own _ _ (gy.alloc _) hg⟩
    case measure=>simp[intOf];omega
  .obtain rfl:k=l:= ae 
   have re:Hid (dZ O=dN (val L-val M)):=by
    show dZ O=_;have h:=HV.out;rw[bU (l:=L) (by have:=HL.out;omega),bU (l:=M) (by have:=HM.out;omega)]at h;rw[mu gy.ok,(Rc gy.ok HO.out h HLE.out).2]
   go_wp2_with fail;refine(yV OA Oc O _ vS ae).mono ?_;rintro e w' ⟨A'',c'',rfl,mP,jm⟩;go_wp2;go_ret;rw[<-re.out];exact⟨A'',c'',rfl,mP,hb.trans jm⟩
open Go.RowKit Fp
theorem OY{O:List Nat}{p a b c o:Nat}(ho:O[p]? = some o):
 val (O.set p ((a*b+o+c)%4294967296))+4294967296^(p+1)*((a*b+o+c)/4294967296)=val O+4294967296^p*c+4294967296^p*(a*b):=by
 obtain⟨hp,rfl⟩:=bA.1 ho;have h:=JF (x:=(a*b+O[p]+c)%4294967296) hp;have e:=congrArg (4294967296^p * ·) (cM (a*b+O[p]+c) 4294967296);simp only[aY]at e;rw[aN,aP];omega
theorem KR{O:List Nat}{p c o:Nat}(ho:O[p]? = some o):
 val (O.set p ((o+c)%4294967296))+4294967296^(p+1)*((o+c)/4294967296)=val O+4294967296^p*c:=by
 have h:=OY (a:=0) (b:=0) (c:=c) ho;simpa using h
theorem lY(x:Nat)(h:x<18446744073709551616):IntKind.u64.wrap (x:Int)=(x:Int):=by rw[IntKind.wrap_u64];omega
theorem Fp.ej.QV{L:List Nat}(h:ej L)(k:Nat)(x:Nat):ej (L.set k (x%4294967296)):=h.set k (aS _ ag)
open Go.RowKit Fp
theorem D4(s:Bool)(A:Option Addr)(c:Nat)(L:List Nat)(e:Int)(w:World)(hs:Sl w A c L)(hlen:L.length<=3000)(gq:-1000000<=e)(fV:e<=1000000):
 Calls Tryz.prog 76 #[.bool s,.slice A L.length c,.int .i64 e] w (rK w (canon s (val L) e)):=by
 by_cases h0:val L=0
 .have nu:=Lib.hid (show canon s (val L) e=eW by unfold canon;rw[aC h0];rfl)
  have G3:dZ L=[]:=by rw[mu hs.ok,h0,j8]
  have hT:=Lib.hid (fun w (h:Sl w A c L)=>yV A c L w h ae);rw[G3]at hT;clear G3 h0;go_enter Tryz.func76,Tryz.ntmps76;go_wp2_with fail;refine(hT.out _ (hs.alloc _)).mono ?_;rintro e w' ⟨A',c',rfl,iK,hb⟩;have bx:=(eJ.new w false none 0 0 0).ext hb;have b0:=bx.c0;have b1:=bx.c1;have b2:=bx.c2;have f0:=bx.fr 0;have f1:=bx.fr 1;have f2:=bx.fr 2;go_wp2;rw[nu.out];have hz:dN eW.m=[]:=j8;exact px rfl rfl rfl (bx.set _ _ _ _ _) (by rw[hz];rfl) (by rw[hz];exact bx.mH (Sl.nil _) _ _ _ _ _) (eJ.mr ((Ext.alloc _ _).trans hb) (aG _) _ _ _ _ _)
 .have nu:=Lib.hid (show canon s (val L) e=⟨s,val L/2^fk (val L),e+fk (val L)⟩by unfold canon;rw[aB h0])
  have hT:=Lib.hid (fun w (h:Sl w A c L)=>yV A c L w h ae);have Ns:=ky L;unfold ig at Ns;have hv:=kS L;have iu:=hs.ok.dZ;generalize dZ L=M at *
  rw[<-hv]at h0 nu ⊢;clear hv;have hZ:=Lib.hid (fun A c w (h:Sl w A c M)=>adt A c M w h ae h0);have uz:fk (val M)<=100000:=by have:=zO iu h0;omega
  have hR:=Lib.hid (fun A c w (h:Sl w A c M)=>adi A c M (fk (val M)) w h ae uz);have oC:M.length≠0:=by intro h;rw[cE h]at h0;exact h0 rfl
  generalize val M/2^fk (val M)=q at *
  generalize fk (val M)=t at *
  obtain⟨m,hm⟩:∃ m,m=M.length:=⟨_,rfl⟩
  go_enter Tryz.func76,Tryz.ntmps76;go_wp2_with fail;refine(hT.out _ (hs.alloc _)).mono ?_;rintro e' w1 ⟨A1,c1,rfl,oI,eB⟩;go_wp2_with fail;refine(hZ.out _ _ _ oI).mono ?_;rintro e' w2 ⟨rfl,rfl⟩;go_wp2_with fail;refine(hR.out _ _ _ oI).mono ?_;rintro e' w2 ⟨A2,c2,rfl,fX,iR⟩;have hb:=eB.trans iR;have bx:=(eJ.new w false none 0 0 0).ext hb;have b0:=bx.c0;have b1:=bx.c1;have b2:=bx.c2;have f0:=bx.fr 0;have f1:=bx.fr 1;have f2:=bx.fr 2;go_wp2;rw[nu.out];exact px rfl rfl rfl (bx.set _ _ _ _ _) rfl (bx.mH fX _ _ _ _ _) (eJ.mr ((Ext.alloc _ _).trans hb) (aG _) _ _ _ _ _)
theorem VK(A:Option Addr)(c:Nat)(L:List Nat)(w:World)(hs:Sl w A c L)(h1:L.length<=3000)(h0:val L≠0)(hT:Tb w):
 Calls Tryz.prog 126 #[.slice A L.length c] w fun e w'=>e = .returned (.int .i64 (fk (val L)))/\w=w':=by
 have iu:=hs.ok;have HV:=Lib.hid (fun i hi h hx=>Vh iu i hi h hx);have H0:=Lib.hid h0;clear h0;go_enter Tryz.func126,Tryz.ntmps126;go_wp2;go_loop [3,8] (fun n i=>∃ k:Nat,k<=L.length/\i = .int .i64 k/\n = .int .i64 ((32*k:Nat):Int)/\∀ j,(hj:j<k)->L[j]? = some 0) (fun _ i=>L.length-(intOf i).toNat)
 case atStart=>exact⟨0,bq _,rfl,rfl,fun j hj=> ae⟩
 case round=>
  obtain⟨k,hk,rfl,rfl,hz⟩:=hrel;have HZ:=Lib.hid hz;clear hz;by_cases ek:k<L.length
  .obtain ⟨ab,ao,rfl,_,c1⟩:=hs.at_ ek
   have iL:L[k]<4294967296:=iu.get ek;have HG:=Lib.hid (aM ek);have HC:=Lib.hid (fun hx=>HV.out k ek (fun j hj=>by have:=HZ.out j hj;rw[aM ae]at this;simpa using this) hx);clear HV;generalize L[k]=x at *
   by_cases hx:x=0
   .have HX:=Lib.hid hx;clear hx
    have hb:((x:Int) != 0)=false:=by have:=HX.out;simp;omega
    go_wp2;go_round
    case rel=>exact⟨k+1, ae,by go_num,by go_num,fun j hj=>by
     by_cases e:j=k
     .subst e;rw[HG.out,HX.out]
     .exact HZ.out j ae⟩
    case measure=>simp[intOf];omega
   .have hb:((x:Int) != 0)=true:= av 
    have HX:=Lib.hid (HC.out hx);have agf:fk x<=32:=by
     have h1:=Bv hx;rcases Nat.lt_or_ge 32 (fk x)with h|h
     .have:=ag8 (a:=2) ag h
      have e:(2:Nat)^32=4294967296:= ag ;omega
     .exact h
    go_wp2_with (go_at_call 163;refine(afr x hx iL _ hT).mono ?_;rintro e w' ⟨rfl,rfl⟩)
    go_ret;exact⟨jW (by rw[HX.out];simp),rfl⟩
  .exfalso
   have:val L=0:=by
    rw[val_eq_zero_iff];intro y hy;obtain⟨j,hj,rfl⟩:=List.getElem_of_mem hy;have:=HZ.out j ae;rw[aM hj]at this;simpa using this
   exact H0.out this
open Go.RowKit Fp
theorem CD(s:Bool)(A:Option Addr)(c:Nat)(L:List Nat)(e:Int)(w:World)(hs:Sl w A c L)(_hlen:L.length<=100000)(jC:(dZ L).length<=256)(gq:-1000000<=e)(fV:e<=1000000)(fO:Tb w):
 Calls Tryz.prog 79 #[.bool s,.slice A L.length c,.int .i64 e] w (rK w (canon s (val L) e)):=by
 have hT:=Lib.hid (fun w (h:Sl w A c L)=>VQ A c L w h);have fX:=hs.trim;have hv:=kS L;have iu:=hs.ok.dZ;have vZ:=tO L;generalize dZ L=M at *
 rw[<-hv];clear hv;by_cases h0:val M=0
 .have nu:=Lib.hid (show canon s (val M) e=eW by unfold canon;rw[aC h0];rfl)
  have oC:Hid (M.length=0):=by
   show M.length=0;rw[vZ.Aa iu,h0,j8];rfl
  obtain⟨m,hm⟩:∃ m,m=M.length:=⟨_,rfl⟩
  rw[<-hm]at hT oC;clear hm h0;obtain rfl:m=0:=oC.out;clear oC;go_enter Tryz.func79,Tryz.ntmps79;go_wp2_with fail;refine(hT.out _ (hs.alloc _)).mono ?_;rintro e w' ⟨rfl,rfl⟩;have bx:=eJ.new w false none 0 0 0;have b0:=bx.c0;have b1:=bx.c1;have b2:=bx.c2;have f0:=bx.fr 0;have f1:=bx.fr 1;have f2:=bx.fr 2;go_wp2;rw[nu.out];have hz:dN eW.m=[]:=j8;exact px rfl rfl rfl bx (by rw[hz];rfl) (by rw[hz];exact Sl.nil _) (Ext.alloc _ _)
 .have nu:=Lib.hid (show canon s (val M) e=⟨s,val M/2^fk (val M),e+fk (val M)⟩by unfold canon;rw[aB h0])
  have hZ:=Lib.hid (fun A c w (h:Sl w A c M) (ht:Tb w)=>VK A c M w h ae h0 ht);have uz:fk (val M)<=65536:=by have:=zO iu h0;omega
  have hR:=Lib.hid (fun A c w (h:Sl w A c M)=>Pb A c M (fk (val M)) w h jC uz);have oC:M.length≠0:=by intro h;rw[cE h]at h0;exact h0 rfl
  have rk:(dN (val M/2^fk (val M))).length<=256:=by
   refine qA (bE (bj _ _) ?_);exact a7 (iG iu) (aR ag jC)
  generalize val M/2^fk (val M)=q at *
  generalize fk (val M)=t at *
  have hK:=Lib.hid (fun A c w (h:Sl w A c (dN q))=>Ft A c (dN q) w h ae);have hP:=Lib.hid (fun A c w (h:Sl w A c (dN q))=>Fs A c (dN q) w h);obtain⟨Q,hQ⟩:∃ Q,Q=dN q:=⟨_,rfl⟩
  have HQ:=Lib.hid hQ;rw[<-hQ]at hR hK hP rk;clear hQ;go_enter Tryz.func79,Tryz.ntmps79;go_wp2_with fail;refine(hT.out _ (hs.alloc _)).mono ?_;rintro e' w1 ⟨rfl,rfl⟩;go_wp2_with fail;refine(hZ.out _ _ _ (fX.alloc _) (fO.alloc _)).mono ?_;rintro e' w2 ⟨rfl,rfl⟩;go_wp2_with fail;refine(hR.out _ _ _ (fX.alloc _)).mono ?_;rintro e' w2 ⟨A2,c2,rfl,Zj,iR⟩;go_wp2_with fail;refine(hK.out _ _ _ Zj).mono ?_;rintro e' w3 ⟨A3,c3,rfl,AJ,mL⟩;go_wp2_with fail;refine(hP.out _ _ _ AJ).mono ?_;rintro e' w4 ⟨rfl,rfl⟩;have hb:=iR.trans mL;have bx:=(eJ.new w false none 0 0 0).ext hb;have b0:=bx.c0;have b1:=bx.c1;have b2:=bx.c2;have f0:=bx.fr 0;have f1:=bx.fr 1;have f2:=bx.fr 2;go_wp2;rw[nu.out];rw[HQ.out]at AJ ⊢;exact px rfl rfl rfl (bx.set _ _ _ _ _) rfl (bx.mH AJ.clip _ _ _ _ _) (eJ.mr ((Ext.alloc _ _).trans hb) (aG _) _ _ _ _ _)
open Go.RowKit Fp
theorem FC(A:Option Addr)(c:Nat)(L:List Nat)(w:World)(hs:Sl w A c L)(hlen:L.length<=100000000):
 Calls Tryz.prog 161 #[.slice A L.length c] w fun e w'=>e = .returned (.int .i64 (dU (val L)))/\w=w':=by
 have H:=Lib.hid (O4 A c L w hs hlen);go_enter Tryz.func161,Tryz.ntmps161;go_wp2_with fail;refine H.out.mono ?_;rintro e w' ⟨rfl,rfl⟩;go_wp2;go_ret;exact⟨rfl,rfl⟩
def pK(m:Nat)(e:Int):Bool:=decide (iM ⟨false,m,e⟩)
theorem Hf(s:Bool)(A:Option Addr)(c:Nat)(L:List Nat)(e:Int)(w:World)(hs:Sl w A c L)(hlen:L.length<=100000000)(gq:-9223372036854775808<=e)(fV:e<=9223372036854775807):
 Calls Tryz.prog 119 #[.agg #[.bool s,.slice A L.length c,.int .i64 e]] w fun r w'=>r = .returned (.bool (pK (val L) e))/\Ext w w':=by
 have H:=Lib.hid (fun w (h:Sl w A c L)=>FC A c L w h hlen);have hn:Hid (pK (val L) e=decide (dU (val L)=0\/dU (val L)<=4096 /\ -16384<=e/\e<=16384/\(dU (val L):Int)+e<=16384)):=by
  have h:dU (val L)=0↔val L=0:=by
   constructor
   .intro h;apply bh;intro h0;have:=jK h0;omega
   .intro h;rw[h];rfl
  exact decide_eq_decide.2 (or_congr h.symm Iff.rfl)
 have sU:dU (val L)<=32*L.length:=gS.2 (by rw[<-kQ];exact iG hs.ok);generalize dU (val L)=n at *
 generalize pK (val L) e=b at *
 have Ys:n=0\/(0<n/\4096<n)\/(0<n/\n<=4096/\e < -16384)\/(0<n/\n<=4096 /\ -16384<=e/\16384<e)\/(0<n/\n<=4096 /\ -16384<=e/\e<=16384/\16384<(n:Int)+e)\/(0<n/\n<=4096 /\ -16384<=e/\e<=16384/\(n:Int)+e<=16384):= ae ;rcases Ys with h|⟨h,h1⟩|⟨h,h1,h2⟩|⟨h,h1,h2,h3⟩|⟨h,h1,h2,h3,h4⟩|⟨h,h1,h2,h3,h4⟩
 .subst h
  have hb:b=true:=by rw[hn.out];simp
  clear hn;subst hb;go_enter Tryz.func119,Tryz.ntmps119;go_wp2_with fail;refine(H.out _ (hs.alloc _)).mono ?_;rintro r w' ⟨rfl,rfl⟩;go_wp2;go_ret;exact⟨rfl,Ext.alloc _ _⟩
 .have hb:b=false:=by rw[hn.out];simp;omega
  have lN:((n:Int)==0)=false:= av ;have nx:decide ((n:Int)<=4096)=false:= av ;clear hn;subst hb;go_enter Tryz.func119,Tryz.ntmps119;go_wp2_with fail;refine(H.out _ (hs.alloc _)).mono ?_;rintro r w' ⟨rfl,rfl⟩;go_wp2;go_ret;exact⟨rfl,Ext.alloc _ _⟩
 .have hb:b=false:=by rw[hn.out];simp;omega
  have lN:((n:Int)==0)=false:= av ;have nx:decide ((n:Int)<=4096)=true:= av ;have iq:decide (-16384<=e)=false:= av ;clear hn;subst hb;go_enter Tryz.func119,Tryz.ntmps119;go_wp2_with fail;refine(H.out _ (hs.alloc _)).mono ?_;rintro r w' ⟨rfl,rfl⟩;go_wp2;go_ret;exact⟨rfl,Ext.alloc _ _⟩
 .have hb:b=false:=by rw[hn.out];simp;omega
  have lN:((n:Int)==0)=false:= av ;have nx:decide ((n:Int)<=4096)=true:= av ;have iq:decide (-16384<=e)=true:= av ;have yb:decide (e<=16384)=false:= av ;clear hn;subst hb;go_enter Tryz.func119,Tryz.ntmps119;go_wp2_with fail;refine(H.out _ (hs.alloc _)).mono ?_;rintro r w' ⟨rfl,rfl⟩;go_wp2;go_ret;exact⟨rfl,Ext.alloc _ _⟩
 .have hb:b=false:=by rw[hn.out];simp;omega
  have lN:((n:Int)==0)=false:= av ;have nx:decide ((n:Int)<=4096)=true:= av ;have iq:decide (-16384<=e)=true:= av ;have yb:decide (e<=16384)=true:= av ;have Y2:decide ((n:Int)+e<=16384)=false:= av ;clear hn;subst hb;go_enter Tryz.func119,Tryz.ntmps119;go_wp2_with fail;refine(H.out _ (hs.alloc _)).mono ?_;rintro r w' ⟨rfl,rfl⟩;go_wp2;go_ret;exact⟨rfl,Ext.alloc _ _⟩
 .have hb:b=true:=by rw[hn.out];simp;omega
  have lN:((n:Int)==0)=false:= av ;have nx:decide ((n:Int)<=4096)=true:= av ;have iq:decide (-16384<=e)=true:= av ;have yb:decide (e<=16384)=true:= av ;have Y2:decide ((n:Int)+e<=16384)=true:= av ;clear hn;subst hb;go_enter Tryz.func119,Tryz.ntmps119;go_wp2_with fail;refine(H.out _ (hs.alloc _)).mono ?_;rintro r w' ⟨rfl,rfl⟩;go_wp2;go_ret;exact⟨rfl,Ext.alloc _ _⟩
def kr(s:Bool)(L:List Nat)(e:Int):Prop:=Trim L/\L.length<=256/\Dy.Valid ⟨s,val L,e⟩
theorem Lx(s:Bool)(e:Int):kr s [] e↔s=false/\e=0:=by
 unfold kr;constructor
 .rintro ⟨_,_,hc,_⟩
  rcases hc with⟨_,h1,h2⟩|h
  .exact ⟨h1,h2⟩
  .simp at h
 .rintro ⟨rfl,rfl⟩
  exact⟨Trim.nil, aj,oO⟩
theorem Lw{s:Bool}{L:List Nat}{e:Int}{x y:Nat}(hx:L[0]? = some x)(hy:L[L.length-1]? = some y):
 kr s L e↔L.length<=256/\x%2=1/\y≠0/\pK (val L) e=true:=by
 have Nj:val L%2=x%2:=by
  cases L with
  | nil=>simp at hx
  | cons z l=>simp at hx;subst hx;simp only[lZ];omega
 have vZ:Trim L↔y≠0:=by
  rw[u9];obtain⟨h1,h2⟩:=bA.1 hy;constructor
  .intro h;rw[<-h2];exact h ae 
  .intro h _;rw[h2];exact h
 unfold kr pK;rw[vZ,ahl];constructor
 .rintro ⟨h1,h2,hc,hr⟩
  have nA:iM ⟨false,val L,e⟩:=hr;refine⟨h2,?_,h1,nA⟩;rcases hc with⟨h,_,_⟩|h
  .exfalso
   have:=(vZ.2 h1).tU (by intro h0;subst h0;simp at hx);simp only at h;omega
  .rw [<-Nj];exact h
 .rintro ⟨h1,h2,h3,h4⟩
  exact⟨h3,h1,.inr (by show val L%2=1;rw[Nj];exact h2),h4⟩
theorem mY{b:Bool}{P:Prop}(h:b=true↔P)(hn:¬P):b=false:=by
 cases b
 .rfl
 .exact absurd (h.1 rfl) hn
theorem E5{b:Bool}{P:Prop}(h:b=true↔P)(hn:P):b=true:=h.2 hn
theorem Tu{b v:Bool}{P:Prop}(h:b=true↔P)(hn:P↔v=true):b=v:=by
 cases b<;>cases v<;>simp_all
theorem vD(s:Bool)(A:Option Addr)(c:Nat)(L:List Nat)(e:Int)(w:World)(b:Bool)(hs:Sl w A c L)(gq:-9223372036854775808<=e)(fV:e<=9223372036854775807)(hb:b=true↔kr s L e):
 Calls Tryz.prog 68 #[.agg #[.bool s,.slice A L.length c,.int .i64 e]] w fun r w'=>r = .returned (.bool b)/\Ext w w':=by
 have xS:=hs.cap;have uz:=hs.lq;by_cases hL:L=[]
 .subst hL
  rw[Lx]at hb;cases s
  .by_cases h:e=0
   .subst h
    have:b=true:=by simpa using hb
    clear hb;subst this;go_enter Tryz.func68,Tryz.ntmps68;go_wp2;go_ret;exact⟨rfl,Ext.alloc _ _⟩
   .have:b=false:=mY hb (by simp[h])
    have h':(e==0)=false:= av ;clear hb;subst this;go_enter Tryz.func68,Tryz.ntmps68;go_wp2;go_ret;exact⟨rfl,Ext.alloc _ _⟩
  .have:b=false:=mY hb aj 
   clear hb;subst this;go_enter Tryz.func68,Tryz.ntmps68;go_wp2;go_ret;exact⟨rfl,Ext.alloc _ _⟩
 .have oH:0<L.length:=dx.2 hL
  clear hL;obtain⟨ab,ao,rfl,_,c1⟩:=hs.at_ oH;obtain⟨ab',ao',e',_,c2⟩:=hs.at_ (i:=L.length-1) ae;cases e';have iL:=hs.ok.get oH;have lp:=hs.ok.get (show L.length-1<L.length by omega);rw[Lw (aM oH) (aM (show L.length-1<L.length by omega))]at hb;have c1':w.cell? ⟨ab,ao,none⟩=some (.int .u32 (L[0]:Int)):=c1;clear c1;generalize L[0]=x at *
  generalize L[L.length-1]=y at *
  have HB:=Lib.hid hb;clear hb;have H:=Lib.hid (fun w (h:Sl w (some ⟨ab,ao,none⟩) c L) (hl:L.length<=256)=>Hf s _ c L e w h ae gq fV);obtain⟨n,hn⟩:∃ n,n=L.length:=⟨_,rfl⟩
  rw[<-hn]at oH c2 H HB xS ⊢;clear hn;generalize pK (val L) e=v at *
  have lN:((n:Int)==0)=false:= av ;by_cases h1:n<=256
  .have nx:decide ((n:Int)<=256)=true:= av 
   by_cases h2:x%2=1
   .have iq:((x:Int)%2==1)=true:= av 
    by_cases h3:y=0
    .have:b=false:=mY HB.out (by simp[h3])
     have yb:((y:Int) != 0)=false:= av ;clear HB;subst this;go_enter Tryz.func68,Tryz.ntmps68;go_wp2;go_ret;exact⟨rfl,Ext.alloc _ _⟩
    .have:b=v:=Tu HB.out (by simp[h1,h2,h3])
     have yb:((y:Int) != 0)=true:= av ;clear HB;subst this;go_enter Tryz.func68,Tryz.ntmps68;go_wp2_with fail;refine(H.out _ (hs.alloc _) h1).mono ?_;rintro r w' ⟨rfl,jm⟩;go_wp2;go_ret;exact⟨rfl,(Ext.alloc _ _).trans jm⟩
   .have:b=false:=mY HB.out (fun h=>h2 h.2.1)
    have iq:((x:Int)%2==1)=false:= av ;clear HB;subst this;go_enter Tryz.func68,Tryz.ntmps68;go_wp2;go_ret;exact⟨rfl,Ext.alloc _ _⟩
  .have:b=false:=mY HB.out (fun h=>h1 h.1)
   have nx:decide ((n:Int)<=256)=false:= av ;clear HB;subst this;go_enter Tryz.func68,Tryz.ntmps68;go_wp2;go_ret;exact⟨rfl,Ext.alloc _ _⟩
open Go.RowKit Fp
theorem H8{n k:Nat}(h:dU n<=32*k):(dN n).length<=k:=qA (by rw[kQ];exact gS.1 h)
theorem VC(d:Dy):kr d.neg (dN d.m) d.e↔d.Valid:=by
 unfold kr;rw[eV];constructor
 .exact fun h=>h.2.2
 .intro h
  refine⟨qK _,?_,h⟩;rcases h.range with h0|⟨h1,_⟩
  .rw [h0,j8];simp
  .exact H8 ae 
theorem kr.Aa{s:Bool}{L:List Nat}{e:Int}(h:kr s L e)(hk:ej L):L=dN (val L):=h.1.Aa hk
theorem kr.len{s:Bool}{L:List Nat}{e:Int}(h:kr s L e):L.length<=256:=h.2.1
theorem kr.bits{s:Bool}{L:List Nat}{e:Int}(h:kr s L e):dU (val L)<=4096:=by
 rcases h.2.2.range with h0|⟨h1,_⟩
 .simp only at h0;rw[h0];decide
 .exact h1
theorem kr.exp{s:Bool}{L:List Nat}{e:Int}(h:kr s L e):-16384<=e/\e<=16384:=by
 rcases h.2.2.range with h0|⟨_,h1,h2,_⟩
 .rcases h.2.2.canon with⟨_,_,h3⟩|h3
  .simp only at h3;omega
  .simp only at h0 h3;omega
 .exact ⟨h1,h2⟩
theorem FD(s:Bool)(A:Option Addr)(c:Nat)(L:List Nat)(e:Int)(w:World)(hs:Sl w A c L)(hd:kr s L e):
 Calls Tryz.prog 130 #[.agg #[.bool s,.slice A L.length c,.int .i64 e]] w fun r w'=>r = .returned (.int .i64 (Dy.dX ⟨s,val L,e⟩))/\Ext w w':=by
 obtain⟨gq,fV⟩:=hd.exp;have hl:=hd.len;have hbt:=hd.bits;have HV:=Lib.hid (fun w (h:Sl w A c L)=>vD s A c L e w true h ae ae (by simp[hd]));have HS:=Lib.hid (fun w (h:Sl w A c L)=>FC A c L w h ae);by_cases h0:L=[]
 .subst h0
  go_enter Tryz.func130,Tryz.ntmps130;go_wp2_with fail;refine(HV.out _ (hs.alloc _)).mono ?_;rintro r w' ⟨rfl,hb⟩;have bx:=(eJ.new w s A 0 c e).ext hb;have b0:=bx.c0;have b1:=bx.c1;have b2:=bx.c2;go_wp2;go_ret;exact⟨rfl,(Ext.alloc _ _).trans hb⟩
 .have oH:0<L.length:=dx.2 h0
  have nC:val L≠0:=by have:=hd.1.tU h0;omega
  have ht:=Lib.hid (show Dy.dX ⟨s,val L,e⟩=dU (val L)+e by unfold Dy.dX;rw[aB nC]);clear h0 nC;generalize Dy.dX ⟨s,val L,e⟩=t at *
  generalize dU (val L)=q at *
  have hw:IntKind.i64.wrap ((q:Int)+e)=q+e:=i64_in _ ae ae;have lN:((L.length:Int)==0)=false:=aw ae;go_enter Tryz.func130,Tryz.ntmps130;go_wp2_with fail;refine(HV.out _ (hs.alloc _)).mono ?_;rintro r w' ⟨rfl,hb⟩;have bx:=(eJ.new w s A L.length c e).ext hb;have b0:=bx.c0;have b1:=bx.c1;have b2:=bx.c2;have iK:=(hs.alloc _).below hb;go_wp2_with fail;go_region_held3 (fun w'=>w'.cell? ⟨w.heap.size,1,none⟩=some (.slice A L.length c)/\w'.cell? ⟨w.heap.size,2,none⟩=some (.int .i64 e)) (go_keep)
   (first|(go_at_call 161;refine(HS.out _ ?_).mono ?_;(exact iK.drew);rintro r w'' ⟨rfl,rfl⟩))
  go_wp2;go_ret;exact⟨jW (by rw[ht.out]),Below.drew ((Ext.alloc _ _).trans hb)⟩
theorem VD(s:Bool)(A:Option Addr)(c:Nat)(L:List Nat)(e:Int)(w:World)(hs:Sl w A c L)(hd:kr s L e):
 Calls Tryz.prog 295 #[.agg #[.bool s,.slice A L.length c,.int .i64 e]] w fun r w'=>r = .returned (.int .i64 (dU (val L)))/\Ext w w':=by
 obtain⟨gq,fV⟩:=hd.exp;have hl:=hd.len;have HV:=Lib.hid (fun w (h:Sl w A c L)=>vD s A c L e w true h ae ae (by simp[hd]));have HS:=Lib.hid (fun w (h:Sl w A c L)=>FC A c L w h ae);go_enter Tryz.func295,Tryz.ntmps295;go_wp2_with fail;refine(HV.out _ (hs.alloc _)).mono ?_;rintro r w' ⟨rfl,hb⟩;have bx:=(eJ.new w s A L.length c e).ext hb;have b0:=bx.c0;have b1:=bx.c1;have b2:=bx.c2;go_wp2_with fail;refine(HS.out _ ((hs.alloc _).below hb)).mono ?_;rintro r w' ⟨rfl,rfl⟩;go_wp2;go_ret;exact⟨rfl,(Ext.alloc _ _).trans hb⟩
theorem FB(s:Bool)(A:Option Addr)(c:Nat)(L:List Nat)(e:Int)(w:World)(hs:Sl w A c L)(hd:kr s L e):
 Calls Tryz.prog 35 #[.agg #[.bool s,.slice A L.length c,.int .i64 e]] w fun r w'=>r = .returned (.int .i64 (Dy.sign ⟨s,val L,e⟩))/\Ext w w':=by
 obtain⟨gq,fV⟩:=hd.exp;have hl:=hd.len;have HV:=Lib.hid (fun w (h:Sl w A c L)=>vD s A c L e w true h ae ae (by simp[hd]));by_cases h0:L=[]
 .subst h0
  go_enter Tryz.func35,Tryz.ntmps35;go_wp2_with fail;refine(HV.out _ (hs.alloc _)).mono ?_;rintro r w' ⟨rfl,hb⟩;have bx:=(eJ.new w s A 0 c e).ext hb;have b0:=bx.c0;have b1:=bx.c1;have b2:=bx.c2;go_wp2;go_ret;exact⟨rfl,(Ext.alloc _ _).trans hb⟩
 .have oH:0<L.length:=dx.2 h0
  have nC:val L≠0:=by have:=hd.1.tU h0;omega
  have ht:=Lib.hid (show Dy.sign ⟨s,val L,e⟩=if s then -1 else 1 by unfold Dy.sign;rw[aB nC]);clear h0 nC;generalize Dy.sign ⟨s,val L,e⟩=t at *
  have lN:((L.length:Int)==0)=false:=aw ae;go_enter Tryz.func35,Tryz.ntmps35;go_wp2_with fail;refine(HV.out _ (hs.alloc _)).mono ?_;rintro r w' ⟨rfl,hb⟩;have bx:=(eJ.new w s A L.length c e).ext hb;have b0:=bx.c0;have b1:=bx.c1;have b2:=bx.c2;cases s
  .go_wp2
   go_ret;exact⟨jW (by rw[ht.out];rfl),(Ext.alloc _ _).trans hb⟩
  .go_wp2
   go_ret;exact⟨jW (by rw[ht.out];rfl),(Ext.alloc _ _).trans hb⟩
open Go.RowKit Fp
theorem Wn(e:Int)(w:World)(b:Bool)(hb:b=true↔(-32768<=e/\e<=32768)):
 Calls Tryz.prog 77 #[.int .i64 e] w fun r w'=>r = .returned (.bool b)/\w=w':=by
 by_cases h1:-32768<=e
 .have d1:decide (-32768<=e)=true:=by simpa using h1
  by_cases h2:e<=32768
  .have d2:decide (e<=32768)=true:=by simpa using h2
   have:=E5 hb ⟨h1,h2⟩;clear hb;subst this;go_enter Tryz.func77,Tryz.ntmps77;go_wp2;go_ret;exact⟨rfl,rfl⟩
  .have d2:decide (e<=32768)=false:=by simpa using h2
   have:=mY hb (fun h=>h2 h.2);clear hb;subst this;go_enter Tryz.func77,Tryz.ntmps77;go_wp2;go_ret;exact⟨rfl,rfl⟩
 .have d1:decide (-32768<=e)=false:=by simpa using h1
  have:=mY hb (fun h=>h1 h.1);clear hb;subst this;go_enter Tryz.func77,Tryz.ntmps77;go_wp2;go_ret;exact⟨rfl,rfl⟩
theorem KW(d:Dy)(A:Option Addr)(c:Nat)(w:World)(hs:Sl w A c (dN d.m))(hl:(dN d.m).length<=100000000)(gq:-10000000<=d.e)(fV:d.e<=10000000)(hd:iM d):
 Calls Tryz.prog 78 #[.agg #[.bool d.neg,.slice A (dN d.m).length c,.int .i64 d.e]] w (oQ w d 0):=by
 obtain⟨s,m,e⟩:=d;simp only at *
 have hr:pK m e=true:=by unfold pK;exact aE hd
 have HV:=Lib.hid (fun w (h:Sl w A c (dN m))=>Hf s A c (dN m) e w h hl ae ae);rw[eV,hr]at HV;clear hr hd;go_enter Tryz.func78,Tryz.ntmps78;go_wp2_with fail;refine(HV.out _ ((hs.alloc _).alloc _)).mono ?_;rintro r w' ⟨rfl,hb⟩;have bx:=((eJ.new w s A (dN m).length c e).alloc (.cells #[.bool false,.slice none 0 0,.int .i64 0] 31)).ext hb;have by_:=(eJ.new (w.alloc (.cells #[.bool s,.slice A (dN m).length c,.int .i64 e] 31)) false none 0 0 0).ext hb;have b0:=bx.c0;have b1:=bx.c1;have b2:=bx.c2;have bz:(w.alloc (.cells #[.bool s,.slice A (dN m).length c,.int .i64 e] 31)).heap.size=w.heap.size+1:= aj ;rw[bz]at by_;have c0:=by_.c0;have c1:=by_.c1;have c2:=by_.c2;have f0:=by_.fr 0;have f1:=by_.fr 1;have f2:=by_.fr 2;have iK:=((hs.alloc (.cells #[.bool s,.slice A (dN m).length c,.int .i64 e] 31)).alloc (.cells #[.bool false,.slice none 0 0,.int .i64 0] 31)).below hb;have jm:Ext w w':=((Ext.alloc _ _).trans (Ext.alloc _ _)).trans hb;clear bz;go_wp2;exact qf rfl rfl rfl rfl (by_.set _ _ _ _ _) rfl (by_.mH iK _ _ _ _ _) (eJ.mr jm ae _ _ _ _ _)
theorem U7(d:Dy)(A:Option Addr)(c:Nat)(w:World)(hs:Sl w A c (dN d.m))(hl:(dN d.m).length<=100000000)(gq:-10000000<=d.e)(fV:d.e<=10000000)(hd:¬iM d):
 Calls Tryz.prog 78 #[.agg #[.bool d.neg,.slice A (dN d.m).length c,.int .i64 d.e]] w (oQ w eW 9):=by
 obtain⟨s,m,e⟩:=d;simp only at *
 have hr:pK m e=false:=by unfold pK;exact aD hd
 have HV:=Lib.hid (fun w (h:Sl w A c (dN m))=>Hf s A c (dN m) e w h hl ae ae);rw[eV,hr]at HV;clear hr hd;go_enter Tryz.func78,Tryz.ntmps78;go_wp2_with fail;refine(HV.out _ ((hs.alloc _).alloc _)).mono ?_;rintro r w' ⟨rfl,hb⟩;have by_:=(eJ.new (w.alloc (.cells #[.bool s,.slice A (dN m).length c,.int .i64 e] 31)) false none 0 0 0).ext hb;have bz:(w.alloc (.cells #[.bool s,.slice A (dN m).length c,.int .i64 e] 31)).heap.size=w.heap.size+1:= aj ;rw[bz]at by_;have c0:=by_.c0;have c1:=by_.c1;have c2:=by_.c2;have f0:=by_.fr 0;have f1:=by_.fr 1;have f2:=by_.fr 2;have jm:Ext w w':=((Ext.alloc _ _).trans (Ext.alloc _ _)).trans hb;have hz:dN eW.m=[]:=j8;have HZ:=Lib.hid hz;clear bz hz;go_wp2;exact qf rfl rfl rfl rfl (by_.set _ _ _ _ _) (by rw[HZ.out];rfl) (by rw[HZ.out];exact by_.mH (Sl.nil _) _ _ _ _ _) (eJ.mr jm ae _ _ _ _ _)
theorem aaW(s:Bool)(A:Option Addr)(c:Nat)(L:List Nat)(e:Int)(w:World)(hs:Sl w A c L)(hlen:L.length<=256)(gq:-32768<=e)(fV:e<=32768)(fO:Tb w)(hd:iM (canon s (val L) e)):
 Calls Tryz.prog 262 #[.bool s,.slice A L.length c,.int .i64 e] w (oQ w (canon s (val L) e) 0):=by
 have Au:decide (256<(L.length:Int))=false:=aD ae;have HE:=Lib.hid (fun w=>Wn e w true (by simp[gq,fV]));have HC:=Lib.hid (fun w (h:Sl w A c L) (ht:Tb w)=>CD s A c L e w h ae (by have:=ky L;unfold ig at this;omega) ae ae ht);have eB:(dN (canon s (val L) e).m).length<=100000000:=by
  unfold canon;split
  .simp [j8]
  .refine aI (qA (k:=256) (bE (bj _ _) ?_)) ag 
   exact a7 (iG hs.ok) (aR ag hlen)
 have iR:-10000000<=(canon s (val L) e).e/\(canon s (val L) e).e<=10000000:=by
  unfold canon;split
  .simp
  .rename_i h0
   have:=zO hs.ok h0;simp only;omega
 obtain⟨iR,mL⟩:=iR;have HK:=Lib.hid (fun A c w (h:Sl w A c (dN (canon s (val L) e).m))=>KW _ A c w h eB iR mL hd);generalize canon s (val L) e=d at *
 clear hd eB iR mL;go_enter Tryz.func262,Tryz.ntmps262;go_wp2_with fail;refine(HE.out _).mono ?_;rintro r w' ⟨rfl,rfl⟩;go_wp2_with fail;refine(HC.out _ (hs.alloc _) (fO.alloc _)).mono ?_;rintro r w1 ⟨A1,c1,rfl,oI,eB⟩;go_wp2_with fail;refine(HK.out _ _ _ oI).mono ?_;rintro r w2 ⟨A2,c2,rfl,fX,iR⟩;have hb:=eB.trans iR;have bx:=(eJ.new w false none 0 0 0).ext hb;have b0:=bx.c0;have b1:=bx.c1;have b2:=bx.c2;have f0:=bx.fr 0;have f1:=bx.fr 1;have f2:=bx.fr 2;go_wp2;exact qf rfl rfl rfl rfl (bx.set _ _ _ _ _) rfl (bx.mH fX _ _ _ _ _) (eJ.mr ((Ext.alloc _ _).trans hb) (aG _) _ _ _ _ _)
open Go.RowKit Fp
theorem afs(x:Nat)(hx:x<4294967296):bits BinOp.and IntKind.u32 (x:Int) 1=((x%2:Nat):Int):=by
 rw[show(1:Int)=((1:Nat):Int)from rfl,bits_and_u32_nat _ _ hx ag,Nat.and_one_is_mod]
theorem ZQ{m:Nat}(h0:m≠0)(e:Int):pK m e=true↔(dU m<=4096 /\ -16384<=e/\e<=16384/\(dU m:Int)+e<=16384):=by
 have h:pK m e=true↔iM ⟨false,m,e⟩:=ahl;rw[h];constructor
 .rintro (h|h)
  .exact absurd h h0
  .exact h
 .exact fun h=>.inr h
theorem D6(s:Bool)(A:Option Addr)(c:Nat)(L:List Nat)(e:Int)(w:World)(b:Bool)(hs:Sl w A c L)(gq:-9223372036854775808<=e)(fV:e<=9223372036854775807)(hb:b=true↔kr s L e):
 Calls Tryz.prog 46 #[.agg #[.bool s,.slice A L.length c,.int .i64 e]] w fun r w'=>r = .returned (.bool b)/\Ext w w':=by
 have xS:=hs.cap;have uz:=hs.lq;by_cases hL:L=[]
 .subst hL
  rw[Lx]at hb;cases s
  .by_cases h:e=0
   .subst h
    have:b=true:=by simpa using hb
    clear hb;subst this;go_enter Tryz.func46,Tryz.ntmps46;go_wp2;go_ret;exact⟨rfl,Ext.alloc _ _⟩
   .have:b=false:=mY hb (by simp[h])
    have h':(e==0)=false:= av ;clear hb;subst this;go_enter Tryz.func46,Tryz.ntmps46;go_wp2;go_ret;exact⟨rfl,Ext.alloc _ _⟩
  .have:b=false:=mY hb aj 
   clear hb;subst this;go_enter Tryz.func46,Tryz.ntmps46;go_wp2;go_ret;exact⟨rfl,Ext.alloc _ _⟩
 .have oH:0<L.length:=dx.2 hL
  obtain⟨ab,ao,rfl,_,c1⟩:=hs.at_ oH;obtain⟨ab',ao',e',_,c2⟩:=hs.at_ (i:=L.length-1) ae;cases e';have iL:=hs.ok.get oH;have lp:=hs.ok.get (show L.length-1<L.length by omega);rw[Lw (aM oH) (aM (show L.length-1<L.length by omega))]at hb;have c1':w.cell? ⟨ab,ao,none⟩=some (.int .u32 (L[0]:Int)):=c1;have MB:=Lib.hid (show L[L.length-1]≠0->Trim L from fun h=>(u9 L).2 (fun _=>h));have qZ:=Lib.hid (show L[L.length-1]≠0->val L≠0 from fun h=>by have:=((u9 L).2 (fun _=>h)).tU hL;omega);clear c1 hL;generalize L[0]=x at *
  generalize L[L.length-1]=y at *
  have HB:=Lib.hid hb;clear hb;have H:=Lib.hid (fun w (h:Sl w (some ⟨ab,ao,none⟩) c L) (hl:L.length<=256) (ht:Trim L)=>Qp _ c L w h ht ae);have hr:Hid (val L≠0->(pK (val L) e=true↔(dU (val L)<=4096 /\ -16384<=e/\e<=16384/\(dU (val L):Int)+e<=16384))):=fun h0=>by
   exact ZQ h0 e
  obtain⟨n,hn⟩:∃ n,n=L.length:=⟨_,rfl⟩
  rw[<-hn]at oH c2 H HB xS ⊢;have HN:=Lib.hid hn;clear hn;have lN:((n:Int)==0)=false:= av ;by_cases h1:n<=256
  .have nx:decide (256<(n:Int))=false:=aD ae 
   by_cases h3:y=0
   .have:b=false:=mY HB.out (by simp[h3])
    have yb:((y:Int)==0)=true:= av ;clear HB hr;subst this;go_enter Tryz.func46,Tryz.ntmps46;go_wp2;go_ret;exact⟨rfl,Ext.alloc _ _⟩
   .have yb:((y:Int)==0)=false:=aw ae 
    have hand:=afs x iL;by_cases h2:x%2=1
    .have iq:(bits BinOp.and IntKind.u32 (x:Int) 1==0)=false:=by rw[hand,h2];rfl
     clear hand;have h0:=qZ.out h3;have vZ:=MB.out h3;have sU:dU (val L)<=32*n:=gS.2 (by rw[<-kQ,HN.out];exact iG hs.ok);have HB2:Hid (b=true↔(dU (val L)<=4096 /\ -16384<=e/\e<=16384/\(dU (val L):Int)+e<=16384)):=by
      show b=true↔_;rw[HB.out,hr.out h0];simp[h1,h2,h3]
     have H2:=Lib.hid (fun w h=>H.out w h h1 vZ);clear HB hr h0 vZ MB qZ H;generalize dU (val L)=q at *
     by_cases h4:-16384<=e
     .have d4:decide (e < -16384)=false:=aD ae 
      by_cases h5:e<=16384
      .have d5:decide (16384<e)=false:=aD ae 
       by_cases h6:q<=4096
       .have d6:decide ((q:Int)<=4096)=true:=aE ae 
        by_cases h7:(q:Int)+e<=16384
        .have d7:decide ((q:Int)+e<=16384)=true:=aE h7
         have:=E5 HB2.out ⟨h6,h4,h5,h7⟩;clear HB2;subst this;go_enter Tryz.func46,Tryz.ntmps46;go_wp2_with fail;refine(H2.out _ (hs.alloc _)).mono ?_;rintro r w' ⟨rfl,rfl⟩;go_wp2;go_ret;exact⟨rfl,Ext.alloc _ _⟩
        .have d7:decide ((q:Int)+e<=16384)=false:=aD h7
         have:=mY HB2.out (fun h=>h7 h.2.2.2);clear HB2;subst this;go_enter Tryz.func46,Tryz.ntmps46;go_wp2_with fail;refine(H2.out _ (hs.alloc _)).mono ?_;rintro r w' ⟨rfl,rfl⟩;go_wp2;go_ret;exact⟨rfl,Ext.alloc _ _⟩
       .have d6:decide ((q:Int)<=4096)=false:=aD ae 
        have:=mY HB2.out (fun h=>h6 h.1);clear HB2;subst this;go_enter Tryz.func46,Tryz.ntmps46;go_wp2_with fail;refine(H2.out _ (hs.alloc _)).mono ?_;rintro r w' ⟨rfl,rfl⟩;go_wp2;go_ret;exact⟨rfl,Ext.alloc _ _⟩
      .have d5:decide (16384<e)=true:=aE ae 
       have:=mY HB2.out (fun h=>h5 h.2.2.1);clear HB2;subst this;go_enter Tryz.func46,Tryz.ntmps46;go_wp2;go_ret;exact⟨rfl,Ext.alloc _ _⟩
     .have d4:decide (e < -16384)=true:=aE ae 
      have:=mY HB2.out (fun h=>h4 h.2.1);clear HB2;subst this;go_enter Tryz.func46,Tryz.ntmps46;go_wp2;go_ret;exact⟨rfl,Ext.alloc _ _⟩
    .have iq:(bits BinOp.and IntKind.u32 (x:Int) 1==0)=true:=by rw[hand,show x%2=0 by omega];rfl
     have:b=false:=mY HB.out (fun h=>h2 h.2.1);clear HB hand hr;subst this;go_enter Tryz.func46,Tryz.ntmps46;go_wp2;go_ret;exact⟨rfl,Ext.alloc _ _⟩
  .have:b=false:=mY HB.out (fun h=>h1 h.1)
   have nx:decide (256<(n:Int))=true:=aE ae;clear HB hr;subst this;go_enter Tryz.func46,Tryz.ntmps46;go_wp2;go_ret;exact⟨rfl,Ext.alloc _ _⟩
open Go.RowKit Fp
theorem ac5(e:Int)(w:World)(b:Bool)(hb:b=true↔(-32768<=e/\e<=32768)):
 Calls Tryz.prog 74 #[.int .i64 e] w fun r w'=>r = .returned (.bool b)/\w=w':=by
 by_cases h1:-32768<=e
 .have d1:decide (-32768<=e)=true:=by simpa using h1
  by_cases h2:e<=32768
  .have d2:decide (e<=32768)=true:=by simpa using h2
   have:=E5 hb ⟨h1,h2⟩;clear hb;subst this;go_enter Tryz.func74,Tryz.ntmps74;go_wp2;go_ret;exact⟨rfl,rfl⟩
  .have d2:decide (e<=32768)=false:=by simpa using h2
   have:=mY hb (fun h=>h2 h.2);clear hb;subst this;go_enter Tryz.func74,Tryz.ntmps74;go_wp2;go_ret;exact⟨rfl,rfl⟩
 .have d1:decide (-32768<=e)=false:=by simpa using h1
  have:=mY hb (fun h=>h1 h.1);clear hb;subst this;go_enter Tryz.func74,Tryz.ntmps74;go_wp2;go_ret;exact⟨rfl,rfl⟩
theorem ac3(d:Dy)(A:Option Addr)(c:Nat)(w:World)(hs:Sl w A c (dN d.m))(hl:(dN d.m).length<=100000000)(gq:-10000000<=d.e)(fV:d.e<=10000000)(hd:d.Valid):
 Calls Tryz.prog 75 #[.agg #[.bool d.neg,.slice A (dN d.m).length c,.int .i64 d.e]] w (oQ w d 0):=by
 obtain⟨s,m,e⟩:=d;simp only at *
 have HV:=Lib.hid (fun w (h:Sl w A c (dN m))=>D6 s A c (dN m) e w true h ae ae (iff_of_true rfl ((VC ⟨s,m,e⟩).2 hd)));clear hd;go_enter Tryz.func75,Tryz.ntmps75;go_wp2_with fail;refine(HV.out _ ((hs.alloc _).alloc _)).mono ?_;rintro r w' ⟨rfl,hb⟩;have bx:=((eJ.new w s A (dN m).length c e).alloc (.cells #[.bool false,.slice none 0 0,.int .i64 0] 31)).ext hb;have by_:=(eJ.new (w.alloc (.cells #[.bool s,.slice A (dN m).length c,.int .i64 e] 31)) false none 0 0 0).ext hb;have b0:=bx.c0;have b1:=bx.c1;have b2:=bx.c2;have bz:(w.alloc (.cells #[.bool s,.slice A (dN m).length c,.int .i64 e] 31)).heap.size=w.heap.size+1:= aj ;rw[bz]at by_;have c0:=by_.c0;have c1:=by_.c1;have c2:=by_.c2;have f0:=by_.fr 0;have f1:=by_.fr 1;have f2:=by_.fr 2;have iK:=((hs.alloc (.cells #[.bool s,.slice A (dN m).length c,.int .i64 e] 31)).alloc (.cells #[.bool false,.slice none 0 0,.int .i64 0] 31)).below hb;have jm:Ext w w':=((Ext.alloc _ _).trans (Ext.alloc _ _)).trans hb;clear bz;go_wp2;exact qf rfl rfl rfl rfl (by_.set _ _ _ _ _) rfl (by_.mH iK _ _ _ _ _) (eJ.mr jm ae _ _ _ _ _)
theorem adl(s:Bool)(A:Option Addr)(c:Nat)(L:List Nat)(e:Int)(w:World)(hs:Sl w A c L)(ht:Trim L):
 Calls Tryz.prog 47 #[.agg #[.bool s,.slice A L.length c,.int .i64 e]] w fun r w'=>r = .returned (.int .i64 (Dy.sign ⟨s,val L,e⟩))/\Ext w w':=by
 have hl:=hs.len;by_cases h0:L=[]
 .subst h0
  go_enter Tryz.func47,Tryz.ntmps47;go_wp2;go_ret;exact⟨rfl,Ext.alloc _ _⟩
 .have oH:0<L.length:=dx.2 h0
  have nC:val L≠0:=by have:=ht.tU h0;omega
  have ht:=Lib.hid (show Dy.sign ⟨s,val L,e⟩=if s then -1 else 1 by unfold Dy.sign;rw[aB nC]);clear h0 nC;generalize Dy.sign ⟨s,val L,e⟩=t at *
  have lN:((L.length:Int)==0)=false:=aw ae;cases s
  .go_enter Tryz.func47,Tryz.ntmps47
   go_wp2;go_ret;exact⟨jW (by rw[ht.out];rfl),Ext.alloc _ _⟩
  .go_enter Tryz.func47,Tryz.ntmps47
   go_wp2;go_ret;exact⟨jW (by rw[ht.out];rfl),Ext.alloc _ _⟩
theorem adn(s:Bool)(A:Option Addr)(c:Nat)(L:List Nat)(e:Int)(w:World)(hs:Sl w A c L)(ht:Trim L)(hl:L.length<=100000)(gq:-1000000<=e)(fV:e<=1000000):
 Calls Tryz.prog 97 #[.agg #[.bool s,.slice A L.length c,.int .i64 e]] w fun r w'=>r = .returned (.int .i64 (Dy.dX ⟨s,val L,e⟩))/\Ext w w':=by
 have HS:=Lib.hid (fun w (h:Sl w A c L)=>Qp A c L w h ht ae);have sU:dU (val L)<=32*L.length:=gS.2 (by rw[<-kQ];exact iG hs.ok);by_cases h0:L=[]
 .subst h0
  go_enter Tryz.func97,Tryz.ntmps97;go_wp2;go_ret;exact⟨rfl,Ext.alloc _ _⟩
 .have oH:0<L.length:=dx.2 h0
  have nC:val L≠0:=by have:=ht.tU h0;omega
  have ht:=Lib.hid (show Dy.dX ⟨s,val L,e⟩=dU (val L)+e by unfold Dy.dX;rw[aB nC]);clear h0 nC;generalize Dy.dX ⟨s,val L,e⟩=t at *
  generalize dU (val L)=q at *
  have hw:IntKind.i64.wrap ((q:Int)+e)=q+e:=i64_in _ ae ae;have lN:((L.length:Int)==0)=false:=aw ae;have iK:=hs.alloc (.cells #[.bool s,.slice A L.length c,.int .i64 e] 31);go_enter Tryz.func97,Tryz.ntmps97;go_wp2_with fail;go_region_held3 (fun w'=>w'.cell? ⟨w.heap.size,1,none⟩=some (.slice A L.length c)/\w'.cell? ⟨w.heap.size,2,none⟩=some (.int .i64 e)) (go_keep)
   (first|(go_at_call 94;refine(HS.out _ ?_).mono ?_;(exact iK.drew);rintro r w'' ⟨rfl,rfl⟩))
  go_wp2;go_ret;exact⟨jW (by rw[ht.out]),Below.drew (Ext.alloc _ _)⟩
theorem ade(s:Bool)(A:Option Addr)(c:Nat)(L:List Nat)(e:Int)(w:World)(hs:Sl w A c L)(ht:Trim L):
 Calls Tryz.prog 99 #[.agg #[.bool s,.slice A L.length c,.int .i64 e]] w (rK w (eD ⟨s,val L,e⟩)):=by
 have hl:=hs.len;have HL:=Lib.hid (ht.Aa hs.ok);by_cases h0:L=[]
 .subst h0
  have HZ:=Lib.hid j8;cases s
  .go_enter Tryz.func99,Tryz.ntmps99
   go_wp2;exact px (d:=eD ⟨false,val [],e⟩) rfl rfl rfl (eJ.newAt aj _ _ _ _ _) (by show _=(dN 0).length;rw[HZ.out];rfl) (by show Sl _ _ _ (dN 0);rw[HZ.out];exact(hs.alloc _).alloc _) ((Ext.alloc _ _).trans (Ext.alloc _ _))
  .go_enter Tryz.func99,Tryz.ntmps99
   go_wp2;exact px (d:=eD ⟨true,val [],e⟩) rfl rfl rfl (eJ.newAt aj _ _ _ _ _) (by show _=(dN 0).length;rw[HZ.out];rfl) (by show Sl _ _ _ (dN 0);rw[HZ.out];exact(hs.alloc _).alloc _) ((Ext.alloc _ _).trans (Ext.alloc _ _))
 .have oH:0<L.length:=dx.2 h0
  have nC:val L≠0:=by have:=ht.tU h0;omega
  have hd:=Lib.hid (show eD ⟨s,val L,e⟩=⟨!s,val L,e⟩by unfold eD;simp[nC]);clear h0 nC ht;rw[hd.out];cases s
  .go_enter Tryz.func99,Tryz.ntmps99
   go_wp2;exact px (d:=⟨!false,val L,e⟩) rfl rfl rfl (eJ.newAt aj _ _ _ _ _) (by show _=(dN (val L)).length;rw[<-HL.out]) (by show Sl _ _ _ (dN (val L));rw[<-HL.out];exact(hs.alloc _).alloc _) ((Ext.alloc _ _).trans (Ext.alloc _ _))
  .go_enter Tryz.func99,Tryz.ntmps99
   go_wp2;exact px (d:=⟨!true,val L,e⟩) rfl rfl rfl (eJ.newAt aj _ _ _ _ _) (by show _=(dN (val L)).length;rw[<-HL.out]) (by show Sl _ _ _ (dN (val L));rw[<-HL.out];exact(hs.alloc _).alloc _) ((Ext.alloc _ _).trans (Ext.alloc _ _))
open Go.RowKit Fp
open Go.RowKit Fp
theorem Sl.two(w:World)(g:Nat)(hg:w.heap.size=g)(y z:Int)(p q:Nat)(e:y=(p:Int))(e':z=(q:Int))(hp:p<4294967296)(hq:q<4294967296):
 Sl (w.alloc (.cells #[.int .u32 y,.int .u32 z] 79)) (some ⟨g,0,none⟩) 2 [p,q]:=by
 subst e e' hg;refine⟨aG _, ag,ej.cons hp (ej.cons hq ej.nil),(fun h=>by cases h),fun i y hy=>?_⟩;obtain⟨h1,h2⟩:=bA.1 hy;simp at h1;refine⟨_,_,rfl, aj,?_⟩;rw[bK,World.cell?_alloc_at _ _ _ _ rfl];rcases i with _|_|i
 .simp at h2;subst h2;rfl
 .simp at h2;subst h2;rfl
 .omega
theorem ac8(n:Nat)(w:World)(hn:n<4294967296):
 Calls Tryz.prog 81 #[.int .i64 n] w (rK w (canon false n 0)):=by
 have hm:=sK n ae;have qq:(n:Int)%4294967296=n:= ae ;rw[qq]at hm;have hd:(n:Int)/4294967296=0:= ae ;have ek:¬(n:Int)<0:= ae ;have Gu:decide ((n:Int)<0)=false:=aD ek;have hu:IntKind.u64.wrap (n:Int)=n:=by rw[IntKind.wrap_u64];omega
 have HC:=Lib.hid (fun(A:Option Addr) c w (h:Sl w A c [n,0])=>D4 false A c [n,0] 0 w h aj ag ag);have hv:val [n,0]=n:= aj ;rw[hv]at HC;clear hv;generalize canon false n 0=d at *
 go_enter Tryz.func81,Tryz.ntmps81;go_wp2_with fail;refine(HC.out _ _ _ (Sl.two _ _ aj _ _ n 0 rfl rfl hn ag)).mono ?_;rintro r w1 ⟨A1,c1,rfl,oI,eB⟩;have eZ:Ext (w.alloc (.cells #[.bool false,.slice none 0 0,.int .i64 0] 31)) w1:=(Ext.alloc _ _).trans eB;have bx:=(eJ.new w false none 0 0 0).ext eZ;have b0:=bx.c0;have b1:=bx.c1;have b2:=bx.c2;have f0:=bx.fr 0;have f1:=bx.fr 1;have f2:=bx.fr 2;go_wp2;exact px rfl rfl rfl (bx.set _ _ _ _ _) rfl (bx.mH oI _ _ _ _ _) (eJ.mr ((Ext.alloc _ _).trans eZ) (aG _) _ _ _ _ _)
open Go.RowKit Fp
end Go.Proofs.YtdgnpeddgdclhaaGreatDoor
namespace Go.Proofs.YtdgnpeddgdclhaaGreatDoor.Fp
theorem xp(s:Bool)(e:Int):canon s 0 e=eW:=by unfold canon;rw[aC rfl];rfl
theorem Ct(s:Bool)(x:Nat)(k:Int):gp (if s then -(x:Int)else(x:Int)) k=canon s x k:=by
 unfold gp;cases s
 .have h:decide ((x:Int)<0)=false:=aD ae 
  simp only[aT,aL];rw[h,dz]
 .by_cases h:x=0
  .subst h;simp[xp]
  .have h:decide (-(x:Int)<0)=true:=aE ae 
   simp only[aW];rw[h,ag9,dz]
theorem Rh{s:Bool}{m n:Nat}{e f k:Int}(hm:m≠0)(hn:n≠0)(hk:min e f=k):
 ep ⟨s,m,e⟩ ⟨s,n,f⟩=canon s (m*2^(e-k).toNat+n*2^(f-k).toNat) k:=by
 unfold ep;rw[aB hm,aB hn];simp only[hk];rw[<-Ct];unfold Dy.num Dy.fm;cases s
 .simp
 .simp;congr 1;omega
theorem Rf{s t:Bool}{m n:Nat}{e f k:Int}(hm:m≠0)(hn:n≠0)(hk:min e f=k)(hs:s≠t)(mA:n*2^(f-k).toNat<=m*2^(e-k).toNat):
 ep ⟨s,m,e⟩ ⟨t,n,f⟩=canon s (m*2^(e-k).toNat-n*2^(f-k).toNat) k:=by
 unfold ep;rw[aB hm,aB hn];simp only[hk];rw[<-Ct];unfold Dy.num Dy.fm;simp only;generalize m*2^(e-k).toNat=x at *
 generalize n*2^(f-k).toNat=y at *
 congr 1;cases s<;>cases t<;>simp at hs ⊢ <;> omega
theorem Rg{s t:Bool}{m n:Nat}{e f k:Int}(hm:m≠0)(hn:n≠0)(hk:min e f=k)(hs:s≠t)(ek:m*2^(e-k).toNat<n*2^(f-k).toNat):
 ep ⟨s,m,e⟩ ⟨t,n,f⟩=canon t (n*2^(f-k).toNat-m*2^(e-k).toNat) k:=by
 unfold ep;rw[aB hm,aB hn];simp only[hk];rw[<-Ct];unfold Dy.num Dy.fm;simp only;generalize m*2^(e-k).toNat=x at *
 generalize n*2^(f-k).toNat=y at *
 congr 1;cases s<;>cases t<;>simp at hs ⊢ <;> omega
theorem aaC{L:List Nat}(h:ej L)(n:Nat):(dN (val L*2^n)).length<=L.length+n/32+1:=by
 refine qA ?_;have h1:=iG h;rw[kQ]at h1 ⊢;have h2:val L*2^n<2^(32*L.length)*2^n:=ca h1 (aJ ag);rw[<-aH]at h2;exact a7 h2 (aR ag ae)
theorem Oi{a b k:Nat}(ha:(dN a).length<=k)(hb:(dN b).length<=k):(dN (a+b)).length<=k+1:=by
 refine qA ?_;have h1:=yG ha;have h2:=yG hb;rw[aN];omega
theorem il{a b:Nat}(h:a<=b):(dN a).length<=(dN b).length:=
 qA (bE h (yG (aG _)))
end Go.Proofs.YtdgnpeddgdclhaaGreatDoor.Fp
namespace Go.Proofs.YtdgnpeddgdclhaaGreatDoor
open Go.RowKit Fp
def iE(a b:Dy):Dy:=canon (a.neg != b.neg) (a.m*b.m) (a.e+b.e)
theorem aaE{L:List Nat}{k:Nat}(h:ej L)(hl:L.length<=k):(dN (val L)).length<=k:=
 qA (a7 (iG h) (aR ag hl))
end Go.Proofs.YtdgnpeddgdclhaaGreatDoor
namespace Go.Proofs.YtdgnpeddgdclhaaGreatDoor.Fp
theorem aaV{d:Dy}{j k:Int}(h1:j<=k)(h2:k<=d.e):d.fm j=d.fm k*2^(k-j).toNat:=by
 unfold Dy.fm;rw[aP,<-aH];congr 2;omega
theorem DS{d:Dy}{j k:Int}(h1:j<=k)(h2:k<=d.e):d.num j=d.num k*((2^(k-j).toNat:Nat):Int):=by
 unfold Dy.num;rw[aaV h1 h2];split
 .rw [dK,Int.neg_mul]
 .rw [dK]
theorem qE{d:Dy}(h:d.m=0)(k:Int):d.num k=0:=by
 unfold Dy.num;rw[OG h];split<;>rfl
def rN(x y:Int):Int:=if x<y then -1 else if y<x then 1 else 0
theorem K1(x y:Int){p:Nat}(hp:0<p):rN (x*(p:Int)) (y*(p:Int))=rN x y:=by
 unfold rN;have h:(0:Int)<(p:Int):= ae ;have a:=@Int.mul_lt_mul_right (p:Int) x y h;have b:=@Int.mul_lt_mul_right (p:Int) y x h;simp only[a,b]
def mw(d:Dy)(k:Int):Prop:=d.m=0\/k<=d.e
theorem mw.num{d:Dy}{j k:Int}(h:mw d k)(hj:j<=k):d.num j=d.num k*((2^(k-j).toNat:Nat):Int):=by
 rcases h with h|h
 .rw [qE h,qE h,Int.zero_mul]
 .exact DS hj h
theorem zK{a b:Dy}{k:Int}(ha:mw a k)(hb:mw b k):ew a b=rN (a.num k) (b.num k):=by
 have e0:ew a b=rN (a.num (min a.e b.e)) (b.num (min a.e b.e)):=rfl;rw[e0];obtain⟨j,h1,h2⟩:∃ j:Int,j<=k/\j<=min a.e b.e:=⟨min k (min a.e b.e), ae, ae⟩
 have a1:=ha.num h1;have b1:=hb.num h1;have a2:=(show mw a (min a.e b.e)from .inr ae).num h2;have b2:=(show mw b (min a.e b.e)from .inr ae).num h2;rw[<-K1 _ _ (p:=2^(min a.e b.e-j).toNat) (aJ ag),<-a2,<-b2,a1,b1,K1 _ _ (aJ ag)]
theorem aaU{s:Bool}{m:Nat}{e k:Int}(h:k<=e):(canon s m e).fm k=m*2^(e-k).toNat:=by
 unfold canon;split
 .rename_i h0;subst h0;simp[Dy.fm]
 .rename_i h0
  unfold Dy.fm;simp only;have e1:=zW h0
  conv=>rhs;rw[<-e1]
  rw[aP,<-aH];congr 2;omega
theorem wI{s:Bool}{m:Nat}{e k:Int}(h:k<=e):(canon s m e).num k=if s then -((m*2^(e-k).toNat:Nat):Int)else((m*2^(e-k).toNat:Nat):Int):=by
 by_cases h0:m=0
 .subst h0
  rw[qE (by simp[canon])];simp
 .have:(canon s m e).neg=s:=by unfold canon;rw[aB h0]
  unfold Dy.num;rw[aaU h,this]
theorem Pr{m:Nat}{e k:Int}(h:k<=e):(canon false m e).num k=((m*2^(e-k).toNat:Nat):Int):=by
 rw[wI h];simp
theorem Iu{z e k:Int}(h:k<=e):(gp z e).num k=z*((2^(e-k).toNat:Nat):Int):=by
 unfold gp;rw[wI h];by_cases hz:z<0
 .simp only[hz,decide_true,aW]
  rw[dK,<-Int.neg_mul];congr 1;omega
 .simp only[hz,decide_false]
  rw[dK,show(z.natAbs:Int)=z by omega];simp
theorem ue{s:Bool}{m:Nat}{e k:Int}(h:k<=e):mw (canon s m e) k:=by
 unfold canon;split
 .exact .inl rfl
 .exact .inr (by simp only;omega)
theorem EP{z e k:Int}(h:k<=e):mw (gp z e) k:=ue h
theorem En{a b:Dy}{k:Int}(ha:mw a k)(hb:mw b k):(ep a b).num k=a.num k+b.num k:=by
 unfold ep;by_cases h1:a.m=0
 .rw [aC h1,qE h1,Int.zero_add]
 .rw [aB h1]
  by_cases h2:b.m=0
  .rw [aC h2,qE h2,Int.add_zero]
  .rw [aB h2]
   have ea:k<=a.e:=by rcases ha with h|h;exact absurd h h1;exact h
   have eb:k<=b.e:=by rcases hb with h|h;exact absurd h h2;exact h
   have hm:k<=min a.e b.e:= ae ;rw[Iu hm,Int.add_mul,<-DS hm ae,<-DS hm ae]
theorem Cc{a b:Dy}{k:Int}(ha:mw a k)(hb:mw b k):mw (ep a b) k:=by
 unfold ep;by_cases h1:a.m=0
 .rw [aC h1];exact hb
 .rw [aB h1]
  by_cases h2:b.m=0
  .rw [aC h2];exact ha
  .rw [aB h2]
   have ea:k<=a.e:=by rcases ha with h|h;exact absurd h h1;exact h
   have eb:k<=b.e:=by rcases hb with h|h;exact absurd h h2;exact h
   exact EP ae 
theorem vt{a b:Dy}(ha:a.Canon)(hb:b.Canon):(ep a b).Canon:=by
 unfold ep;split
 .exact hb
 .split
  .exact ha
  .exact oq _ _ _
theorem ER{d:Dy}{k:Int}(h:mw d k):mw (eD d) k:=h
theorem Iw{d:Dy}(k:Int):(eD d).num k = -(d.num k):=by
 by_cases h:d.m=0
 .rw [qE h,qE (by exact h)];rfl
 .exact Ps d k h
theorem LD{a b:Dy}(ha:a.Canon)(hb:b.Canon){k:Int}(h1:mw a k)(h2:mw b k)(h:a.num k=b.num k):a=b:=by
 have zero:∀ {d:Dy},d.Canon->d.m=0->d=eW:=by
  intro d hd h0;obtain⟨s,m,e⟩:=d;rcases hd with⟨x,y,z⟩|hd
  .simp only at x y z;subst x y z;rfl
  .simp only at hd h0;omega
 have nz:∀ {d:Dy},d.num k=0->d.m=0:=by
  intro d hd;by_cases h0:d.m=0
  .exact h0
  .exfalso
   have:=sn h0 k;unfold Dy.num at hd;split at hd<;>omega
 by_cases za:a.m=0
 .have zb:b.m=0:=nz (by rw[<-h];exact qE za k)
  rw[zero ha za,zero hb zb]
 .have zb:b.m≠0:=fun zb=>za (nz (by rw[h];exact qE zb k))
  have oa:a.m%2=1:=by rcases ha with⟨x,_,_⟩|x;exact absurd x za;exact x
  have ob:b.m%2=1:=by rcases hb with⟨x,_,_⟩|x;exact absurd x zb;exact x
  have ea:k<=a.e:=by rcases h1 with h|h;exact absurd h za;exact h
  have eb:k<=b.e:=by rcases h2 with h|h;exact absurd h zb;exact h
  have pa:=sn za k;have pb:=sn zb k;have hm:a.neg=b.neg/\a.fm k=b.fm k:=by
   unfold Dy.num at h;cases x:a.neg<;>cases y:b.neg<;>simp[x,y]at h<;>first|exact⟨rfl, ae⟩|(exfalso;omega)
  have hc:=congrArg fk hm.2;unfold Dy.fm at hc;rw[sN oa,sN ob]at hc;have qq:=hm.2;unfold Dy.fm at qq;rw[hc]at qq;have nV:=Nat.eq_of_mul_eq_mul_right (aJ ag) qq;obtain⟨s,m,e⟩:=a;obtain⟨t,n,f⟩:=b;simp only at *
  have:e=f:= ae ;rw[hm.1,nV,this]
end Go.Proofs.YtdgnpeddgdclhaaGreatDoor.Fp
namespace Go.Proofs.YtdgnpeddgdclhaaGreatDoor
open Go.RowKit Fp
theorem Eh(A:Option Addr)(c:Nat)(M:List Nat)(n:Int)(w:World)(fX:Sl w A c M)(hlen:M.length<=256)(h0:0<=n)(hn:n<=65536)(jV:(dN (val M*2^n.toNat)).length<=256):
 Calls Tryz.prog 132 #[.slice A M.length c,.int .i64 n] w (pr w (dN (val M*2^n.toNat))):=by
 obtain⟨k,rfl⟩:=dL h0;exact ad8 A c M k w fX hlen ae jV
set_option maxHeartbeats 8000000 in
theorem VI(s : Bool)(A : Option Addr)(c : Nat)(L : List Nat)(e : Int)(t : Bool)(B : Option Addr)(d : Nat)(M : List Nat)(f : Int)(w : World)
    (hs : Sl w A c L) (hr : Sl w B d M) (da : kr s L e) (db : kr t M f) (qm : val L≠0) (oC : val M≠0):
    Calls Tryz.prog 80 #[.agg #[.bool s, .slice A L.length c, .int .i64 e], .agg #[.bool t, .slice B M.length d, .int .i64 f]] w fun r w' => r = .returned (.int .i64 (ot ⟨s, val L, e⟩ ⟨t, val M, f⟩))/\Ext w w' := by
  obtain⟨gq, fV⟩ := da.exp;obtain⟨xU, Ap⟩ := db.exp;have hl := da.len;have hm := db.len;have hE : Ext w ((w.alloc (.cells #[.bool s, .slice A L.length c, .int .i64 e] 31)).alloc (.cells #[.bool t, .slice B M.length d, .int .i64 f] 31)) := (Ext.alloc _ _).trans (Ext.alloc _ _);have gT := ((eJ.new w s A L.length c e).alloc (.cells #[.bool t, .slice B M.length d, .int .i64 f] 31)).drew;have ia := (eJ.newAt (W := w.alloc (.cells #[.bool s, .slice A L.length c, .int .i64 e] 31)) (g := w.heap.size+1) aj t B M.length d f).drew;have s9 := (hs.below hE).drew;have vW := (hr.below hE).drew;have HE := Lib.hid (hE.trans (Ext.drew _));clear hE;have HTa := Lib.hid (fun w (h : Sl w A c L) => FD s A c L e w h da);have HTb := Lib.hid (fun w (h : Sl w B d M) => FD t B d M f w h db);have Hlt := Lib.hid (fun h => K3 (a := ⟨s, val L, e⟩) (b := ⟨t, val M, f⟩) qm oC h);have Hgt := Lib.hid (fun h => K2 (a := ⟨s, val L, e⟩) (b := ⟨t, val M, f⟩) qm oC h);have Hta := Lib.hid (show Dy.dX ⟨s, val L, e⟩=dU (val L)+e by unfold Dy.dX;rw[aB qm]);have Htb := Lib.hid (show Dy.dX ⟨t, val M, f⟩=dU (val M)+f by unfold Dy.dX;rw[aB oC]);obtain⟨k, hk⟩ : ∃ k, min e f=k := ⟨_, rfl⟩
  have hke : k<=e := ae ;have hkf : k<=f := ae ;have kj : -17000<=k := ae ;have GK := Lib.hid (show k=e\/k=f by omega);have G7 : IntKind.i64.wrap (e-k)=e-k := i64_in _ ae ae;have Zu : IntKind.i64.wrap (f-k)=f-k := i64_in _ ae ae;have HM := Lib.hid (show ot ⟨s, val L, e⟩ ⟨t, val M, f⟩=fN (val L*2^(e-k).toNat) (val M*2^(f-k).toNat)by unfold ot;simp only[hk];rfl);have Hfa := Lib.hid (show dU (val L)+e=dU (val M)+f->dU (val L*2^(e-k).toNat)<=4096 from fun h => by
    rw[mg qm];have := da.bits;have := db.bits;have := GK.out;omega)
  have Hfb := Lib.hid (show dU (val L)+e=dU (val M)+f->dU (val M*2^(f-k).toNat)<=4096 from fun h => by
    rw[mg oC];have := da.bits;have := db.bits;have := GK.out;omega)
  have HXa := Lib.hid (fun w (h : Sl w A c L) jV => Eh A c L (e-k) w h hl ae ae jV);have HXb := Lib.hid (fun w (h : Sl w B d M) jV => Eh B d M (f-k) w h hm ae ae jV);generalize Dy.dX ⟨s, val L, e⟩=ta at *
  generalize Dy.dX ⟨t, val M, f⟩=tb at *
  generalize ot ⟨s, val L, e⟩ ⟨t, val M, f⟩=R at *
  generalize val L*2^(e-k).toNat=x at *
  generalize val M*2^(f-k).toNat=y at *
  have HC := Lib.hid (fun A B c d w (h : Sl w A c (dN x)) (k : Sl w B d (dN y)) hx hy => Bg A B c d (dN x) (dN y) w h k hx hy);rw[eV, eV]at HC;clear qm oC da db hl hm;go_enter Tryz.func80, Tryz.ntmps80;go_wp2_with fail;go_region_held3 (fun w' => w'.cell? ⟨w.heap.size, 0, none⟩=some (.bool s)/\w'.cell? ⟨w.heap.size, 1, none⟩=some (.slice A L.length c)/\w'.cell? ⟨w.heap.size, 2, none⟩=some (.int .i64 e)/\w'.cell? ⟨w.heap.size+1, 0, none⟩=some (.bool t)/\w'.cell? ⟨w.heap.size+1, 1, none⟩=some (.slice B M.length d)/\w'.cell? ⟨w.heap.size+1, 2, none⟩=some (.int .i64 f))
    (first
      | exact⟨gT.c0, gT.c1, gT.c2, ia.c0, ia.c1, ia.c2⟩
      | exact⟨(gT.ext eH).c0, (gT.ext eH).c1, (gT.ext eH).c2, (ia.ext eH).c0, (ia.ext eH).c1, (ia.ext eH).c2⟩
      | exact⟨(gT.ext eR).c0, (gT.ext eR).c1, (gT.ext eR).c2, (ia.ext eR).c0, (ia.ext eR).c1, (ia.ext eR).c2⟩
      | exact⟨(gT.ext (eH.trans eR)).c0, (gT.ext (eH.trans eR)).c1, (gT.ext (eH.trans eR)).c2, (ia.ext (eH.trans eR)).c0, (ia.ext (eH.trans eR)).c1, (ia.ext (eH.trans eR)).c2⟩
      | exact⟨(gT.ext (eR.trans eH)).c0, (gT.ext (eR.trans eH)).c1, (gT.ext (eR.trans eH)).c2, (ia.ext (eR.trans eH)).c0, (ia.ext (eR.trans eH)).c1, (ia.ext (eR.trans eH)).c2⟩
      | exact⟨(gT.ext ((eH.trans eR).trans kC)).c0, (gT.ext ((eH.trans eR).trans kC)).c1, (gT.ext ((eH.trans eR).trans kC)).c2, (ia.ext ((eH.trans eR).trans kC)).c0, (ia.ext ((eH.trans eR).trans kC)).c1, (ia.ext ((eH.trans eR).trans kC)).c2⟩
      | exact⟨(gT.ext ((eR.trans eH).trans kC)).c0, (gT.ext ((eR.trans eH).trans kC)).c1, (gT.ext ((eR.trans eH).trans kC)).c2, (ia.ext ((eR.trans eH).trans kC)).c0, (ia.ext ((eR.trans eH).trans kC)).c1, (ia.ext ((eR.trans eH).trans kC)).c2⟩)
    (first
      | (go_at_call_of 130 (Value.agg #[.bool s, .slice A L.length c, .int .i64 e])
         refine(HTa.out _ ?_).mono ?_
         (first|exact s9|exact s9.below eR)
         rintro r wx ⟨rfl, eH⟩)
      | (go_at_call_of 130 (Value.agg #[.bool t, .slice B M.length d, .int .i64 f])
         refine(HTb.out _ ?_).mono ?_
         (first|exact vW|exact vW.below eH)
         rintro r wy ⟨rfl, eR⟩))
  first
    | (have lO := eH.trans eR)
    | (have lO := eR.trans eH)
  have cx1 := (gT.ext lO).drew;have cx2 := (ia.ext lO).drew;have fX := (s9.below lO).drew;have jO := (vW.below lO).drew;have cx1n := (gT.ext lO)
  have cx2n := (ia.ext lO)
  have HF := Lib.hid ((HE.out.trans lO).trans (Ext.drew _));have HFr := Lib.hid (HE.out.trans lO);clear eH eR lO;by_cases h1 : ta<tb
  . have hR := Lib.hid (Hlt.out h1)
    go_wp2;go_ret;exact⟨jW hR.out.symm, HFr.out⟩
  . by_cases h2 : tb<ta
    . have hR := Lib.hid (Hgt.out h2)
      go_wp2;go_ret;exact⟨jW hR.out.symm, HFr.out⟩
    . have kZ : (dU (val L) : Int)+e=dU (val M)+f := by rw[<-Hta.out, <-Htb.out];omega
      have YB := H8 (k := 128) (Hfa.out kZ);have YC := H8 (k := 128) (Hfb.out kZ);have HXa2 := Lib.hid (fun w h => HXa.out w h ae);have HXb2 := Lib.hid (fun w h => HXb.out w h ae);have HC2 := Lib.hid (fun A B c d w h k => HC.out A B c d w h k ae ae);have b0 := cx1n.c0;have b1 := cx1n.c1;have b2 := cx1n.c2;have d0 := cx2n.c0;have d1 := cx2n.c1;have d2 := cx2n.c2;clear kZ YB YC;go_wp2_with fail;go_region_held3 (fun w' => w'.cell? ⟨w.heap.size, 0, none⟩=some (.bool s)/\w'.cell? ⟨w.heap.size, 1, none⟩=some (.slice A L.length c)/\w'.cell? ⟨w.heap.size, 2, none⟩=some (.int .i64 e)/\w'.cell? ⟨w.heap.size+1, 0, none⟩=some (.bool t)/\w'.cell? ⟨w.heap.size+1, 1, none⟩=some (.slice B M.length d)/\w'.cell? ⟨w.heap.size+1, 2, none⟩=some (.int .i64 f))
        (first
          | exact⟨cx1.c0, cx1.c1, cx1.c2, cx2.c0, cx2.c1, cx2.c2⟩
          | exact⟨(cx1.ext eH).c0, (cx1.ext eH).c1, (cx1.ext eH).c2, (cx2.ext eH).c0, (cx2.ext eH).c1, (cx2.ext eH).c2⟩
          | exact⟨(cx1.ext eR).c0, (cx1.ext eR).c1, (cx1.ext eR).c2, (cx2.ext eR).c0, (cx2.ext eR).c1, (cx2.ext eR).c2⟩
          | exact⟨(cx1.ext (eH.trans eR)).c0, (cx1.ext (eH.trans eR)).c1, (cx1.ext (eH.trans eR)).c2, (cx2.ext (eH.trans eR)).c0, (cx2.ext (eH.trans eR)).c1, (cx2.ext (eH.trans eR)).c2⟩
          | exact⟨(cx1.ext (eR.trans eH)).c0, (cx1.ext (eR.trans eH)).c1, (cx1.ext (eR.trans eH)).c2, (cx2.ext (eR.trans eH)).c0, (cx2.ext (eR.trans eH)).c1, (cx2.ext (eR.trans eH)).c2⟩
          | exact⟨(cx1.ext ((eH.trans eR).trans kC)).c0, (cx1.ext ((eH.trans eR).trans kC)).c1, (cx1.ext ((eH.trans eR).trans kC)).c2, (cx2.ext ((eH.trans eR).trans kC)).c0, (cx2.ext ((eH.trans eR).trans kC)).c1, (cx2.ext ((eH.trans eR).trans kC)).c2⟩
          | exact⟨(cx1.ext ((eR.trans eH).trans kC)).c0, (cx1.ext ((eR.trans eH).trans kC)).c1, (cx1.ext ((eR.trans eH).trans kC)).c2, (cx2.ext ((eR.trans eH).trans kC)).c0, (cx2.ext ((eR.trans eH).trans kC)).c1, (cx2.ext ((eR.trans eH).trans kC)).c2⟩)
        (first
          | (go_at_call_of 132 (Value.slice A L.length c)
             refine(HXa2.out _ ?_).mono ?_
             (first|exact fX|exact fX.below eR)
             rintro r wx ⟨Ax, cx, rfl, Nq, eH⟩)
          | (go_at_call_of 132 (Value.slice B M.length d)
             refine(HXb2.out _ ?_).mono ?_
             (first|exact jO|exact jO.below eH)
             rintro r wy ⟨Ay, cy, rfl, Nr, eR⟩)
          | (go_at_call 131
             refine(HC2.out _ _ _ _ _ ?_ ?_).mono ?_
             (first|exact Nq.below eR|exact Nq)
             (first|exact Nr|exact Nr.below eH)
             rintro r wz ⟨rfl, kC⟩))
      all_goals
        go_wp2;go_ret
        (first|exact⟨jW HM.out.symm, HF.out.trans ((eH.trans eR).trans kC)⟩|exact⟨jW HM.out.symm, HF.out.trans ((eR.trans eH).trans kC)⟩)
open Go.RowKit Fp
theorem Q0{d:Dy}:d.sign=0↔d.m=0:=by
 rcases y7 d with⟨h1,h2⟩|⟨h1,_,h2⟩|⟨h1,_,h2⟩<;>simp[h1,h2]
theorem VG(s : Bool)(A : Option Addr)(c : Nat)(L : List Nat)(e : Int)(t : Bool)(B : Option Addr)(d : Nat)(M : List Nat)(f : Int)(w : World)
    (hs : Sl w A c L) (hr : Sl w B d M) (da : kr s L e) (db : kr t M f):
    Calls Tryz.prog 37 #[.agg #[.bool s, .slice A L.length c, .int .i64 e], .agg #[.bool t, .slice B M.length d, .int .i64 f]] w fun r w' => r = .returned (.int .i64 (ew ⟨s, val L, e⟩ ⟨t, val M, f⟩))/\Ext w w' := by
  obtain⟨gq, fV⟩ := da.exp;obtain⟨xU, Ap⟩ := db.exp;have HVa := Lib.hid (fun w (h : Sl w A c L) => vD s A c L e w true h ae ae (by simp[da]));have HVb := Lib.hid (fun w (h : Sl w B d M) => vD t B d M f w true h ae ae (by simp[db]));have HSa := Lib.hid (fun w (h : Sl w A c L) => FB s A c L e w h da);have HSb := Lib.hid (fun w (h : Sl w B d M) => FB t B d M f w h db);have HK := Lib.hid (fun h1 h2 w (h : Sl w A c L) (k : Sl w B d M) => VI s A c L e t B d M f w h k da db h1 h2);have HP := Lib.hid (xt ⟨s, val L, e⟩ ⟨t, val M, f⟩);have z1 : Hid (Dy.sign ⟨s, val L, e⟩=0↔val L=0) := Q0;have z2 : Hid (Dy.sign ⟨t, val M, f⟩=0↔val M=0) := Q0;have Dm : Dy.sign ⟨s, val L, e⟩=0\/Dy.sign ⟨s, val L, e⟩ = -1\/Dy.sign ⟨s, val L, e⟩=1 := by
    rcases y7 ⟨s, val L, e⟩with⟨_, h⟩|⟨_, _, h⟩|⟨_, _, h⟩<;>simp[h]
  have kv : ot ⟨s, val L, e⟩ ⟨t, val M, f⟩ = -1\/ot ⟨s, val L, e⟩ ⟨t, val M, f⟩=0\/ot ⟨s, val L, e⟩ ⟨t, val M, f⟩=1 := by
    unfold ot fN;split;simp;split<;>simp
  generalize Dy.sign ⟨s, val L, e⟩=sa at *
  generalize Dy.sign ⟨t, val M, f⟩=sb at *
  generalize ot ⟨s, val L, e⟩ ⟨t, val M, f⟩=cm at *
  generalize ew ⟨s, val L, e⟩ ⟨t, val M, f⟩=R at *
  have wi : IntKind.i64.wrap (sa*cm)=sa*cm := i64_in _ (by rcases Dm with rfl|rfl|rfl<;>omega) (by rcases Dm with rfl|rfl|rfl<;>omega);have HH := Lib.hid Dm;clear Dm kv da db;go_enter Tryz.func37, Tryz.ntmps37;go_wp2_with fail;refine(HVa.out _ ((hs.alloc _).alloc _)).mono ?_;rintro r w1 ⟨rfl, eB⟩;have gT := ((eJ.new w s A L.length c e).alloc (.cells #[.bool t, .slice B M.length d, .int .i64 f] 31)).ext eB;have ia := (eJ.newAt (W := w.alloc (.cells #[.bool s, .slice A L.length c, .int .i64 e] 31)) (g := w.heap.size+1) aj t B M.length d f).ext eB;have b0 := gT.c0;have b1 := gT.c1;have b2 := gT.c2;have d0 := ia.c0;have d1 := ia.c1;have d2 := ia.c2;have hE := (((Ext.alloc w (.cells #[.bool s, .slice A L.length c, .int .i64 e] 31)).trans (Ext.alloc _ (.cells #[.bool t, .slice B M.length d, .int .i64 f] 31))).trans eB)
  go_wp2_with fail;refine(HVb.out _ (hr.below hE)).mono ?_;rintro r w2 ⟨rfl, iR⟩;have CW := hE.trans iR;have gT := (gT.ext iR).drew;have ia := (ia.ext iR).drew;have s9 := (hs.below CW).drew;have vW := (hr.below CW).drew;have HE := Lib.hid (CW.trans (Ext.drew _));clear hE CW eB iR b0 b1 b2 d0 d1 d2;go_wp2_with fail;go_region_held3 (fun w' => w'.cell? ⟨w.heap.size, 0, none⟩=some (.bool s)/\w'.cell? ⟨w.heap.size, 1, none⟩=some (.slice A L.length c)/\w'.cell? ⟨w.heap.size, 2, none⟩=some (.int .i64 e)/\w'.cell? ⟨w.heap.size+1, 0, none⟩=some (.bool t)/\w'.cell? ⟨w.heap.size+1, 1, none⟩=some (.slice B M.length d)/\w'.cell? ⟨w.heap.size+1, 2, none⟩=some (.int .i64 f))
    (first
      | exact⟨gT.c0, gT.c1, gT.c2, ia.c0, ia.c1, ia.c2⟩
      | exact⟨(gT.ext eH).c0, (gT.ext eH).c1, (gT.ext eH).c2, (ia.ext eH).c0, (ia.ext eH).c1, (ia.ext eH).c2⟩
      | exact⟨(gT.ext eR).c0, (gT.ext eR).c1, (gT.ext eR).c2, (ia.ext eR).c0, (ia.ext eR).c1, (ia.ext eR).c2⟩
      | exact⟨(gT.ext (eH.trans eR)).c0, (gT.ext (eH.trans eR)).c1, (gT.ext (eH.trans eR)).c2, (ia.ext (eH.trans eR)).c0, (ia.ext (eH.trans eR)).c1, (ia.ext (eH.trans eR)).c2⟩
      | exact⟨(gT.ext (eR.trans eH)).c0, (gT.ext (eR.trans eH)).c1, (gT.ext (eR.trans eH)).c2, (ia.ext (eR.trans eH)).c0, (ia.ext (eR.trans eH)).c1, (ia.ext (eR.trans eH)).c2⟩)
    (first
      | (go_at_call_of 35 (Value.agg #[.bool s, .slice A L.length c, .int .i64 e])
         refine(HSa.out _ ?_).mono ?_
         (first|exact s9|exact s9.below eR)
         rintro r wx ⟨rfl, eH⟩)
      | (go_at_call_of 35 (Value.agg #[.bool t, .slice B M.length d, .int .i64 f])
         refine(HSb.out _ ?_).mono ?_
         (first|exact vW|exact vW.below eH)
         rintro r wy ⟨rfl, eR⟩))
  first
    | (have lO := eH.trans eR)
    | (have lO := eR.trans eH)
  have cx1 := (gT.ext lO)
  have cx2 := (ia.ext lO)
  have fX := (s9.below lO)
  have jO := (vW.below lO)
  have HFr := Lib.hid (HE.out.trans lO);clear eH eR lO;by_cases h1 : sa<sb
  . have hR := Lib.hid (show R = -1 by rw[HP.out, aC h1])
    go_wp2;go_ret;exact⟨jW hR.out.symm, HFr.out⟩
  . by_cases h2 : sb<sa
    . have hR := Lib.hid (show R=1 by rw[HP.out, aB h1, aC h2])
      go_wp2;go_ret;exact⟨jW hR.out.symm, HFr.out⟩
    . by_cases h3 : sa=0
      . have hR := Lib.hid (show R=0 by rw[HP.out, aB h1, aB h2, aC h3])
        have hz : (sa==0)=true := by simp[h3]
        go_wp2;go_ret;exact⟨jW hR.out.symm, HFr.out⟩
      . have hR := Lib.hid (show R=sa*cm by rw[HP.out, aB h1, aB h2, aB h3])
        have hz : (sa==0)=false := aw h3;have HK2 := Lib.hid (HK.out (fun h => h3 (z1.out.2 h)) (fun h => h3 (by have := z2.out.2 h;omega)));have b0 := cx1.c0;have b1 := cx1.c1;have b2 := cx1.c2;have d0 := cx2.c0;have d1 := cx2.c1;have d2 := cx2.c2;go_wp2_with fail;refine(HK2.out _ fX jO).mono ?_;rintro r w3 ⟨rfl, mL⟩;go_wp2;go_ret;exact⟨jW hR.out.symm, HFr.out.trans mL⟩
open Go.RowKit Fp
theorem KO{L:List Nat}(h:ej L)(hl:L.length<=256)(s:Bool)(e:Int):(dN (canon s (val L) e).m).length<=100000000:=by
 unfold canon;split
 .simp [j8]
 .refine aI (qA (k:=256) (bE (bj _ _) ?_)) ag 
  exact a7 (iG h) (aR ag hl)
theorem Fj{L:List Nat}(h:ej L)(hl:L.length<=256)(s:Bool)(e:Int)(h1:-9000000<=e)(h2:e<=9000000):-10000000<=(canon s (val L) e).e/\(canon s (val L) e).e<=10000000:=by
 unfold canon;split
 .simp
 .rename_i h0
  have:=zO h h0;simp only;omega
theorem adk(s:Bool)(A:Option Addr)(c:Nat)(L:List Nat)(e k:Int)(w:World)(hs:Sl w A c L)(hd:kr s L e)(kj:-32768<=k)(nU:k<=32768)(hr:iM (canon s (val L) (e+k))):
 Calls Tryz.prog 31 #[.agg #[.bool s,.slice A L.length c,.int .i64 e],.int .i64 k] w (oQ w (canon s (val L) (e+k)) 0):=by
 obtain⟨gq,fV⟩:=hd.exp;have hlen:=hd.len;have HV:=Lib.hid (fun w (h:Sl w A c L)=>D6 s A c L e w true h ae ae (by simp[hd]));have HX:=Lib.hid (fun w=>ac5 k w true (by simp[kj,nU]));have hw:IntKind.i64.wrap (e+k)=e+k:=i64_in _ ae ae;have HC:=Lib.hid (fun w (h:Sl w A c L)=>D4 s A c L (e+k) w h ae ae ae);have eB:=KO hs.ok hlen s (e+k);obtain⟨iR,mL⟩:=Fj hs.ok hlen s (e+k) ae ae;have hv:(canon s (val L) (e+k)).Valid:=⟨oq _ _ _,hr⟩
 have HK:=Lib.hid (fun A c w (h:Sl w A c (dN (canon s (val L) (e+k)).m))=>ac3 _ A c w h eB iR mL hv);generalize canon s (val L) (e+k)=D at *
 clear hd hr hv eB iR mL;go_enter Tryz.func31,Tryz.ntmps31;go_wp2_with fail;refine(HV.out _ ((hs.alloc _).alloc _)).mono ?_;rintro r w1 ⟨rfl,eB⟩;have gT:=((eJ.new w s A L.length c e).alloc (.cells #[.bool false,.slice none 0 0,.int .i64 0] 31)).ext eB;have ia:=(eJ.newAt (W:=w.alloc (.cells #[.bool s,.slice A L.length c,.int .i64 e] 31)) (g:=w.heap.size+1) aj false none 0 0 0).ext eB;have b0:=gT.c0;have b1:=gT.c1;have b2:=gT.c2;have hE:=(((Ext.alloc w (.cells #[.bool s,.slice A L.length c,.int .i64 e] 31)).trans (Ext.alloc _ (.cells #[.bool false,.slice none 0 0,.int .i64 0] 31))).trans eB)
 have s9:=hs.below hE;have HE:=Lib.hid hE;clear hE eB;go_wp2_with fail;refine(HX.out _).mono ?_;rintro r w2 ⟨rfl,rfl⟩;go_wp2_with fail;refine(HC.out _ s9).mono ?_;rintro r w2 ⟨A1,c1,rfl,oI,iR⟩;go_wp2_with fail;refine(HK.out _ _ _ oI).mono ?_;rintro r w3 ⟨A2,c2,rfl,fX,mL⟩;have bz:=ia.ext (iR.trans mL);have z0:=bz.c0;have z1:=bz.c1;have z2:=bz.c2;have f0:=bz.fr 0;have f1:=bz.fr 1;have f2:=bz.fr 2;go_wp2;exact qf rfl rfl rfl rfl (bz.set _ _ _ _ _) rfl (bz.mH fX _ _ _ _ _) (eJ.mr (HE.out.trans (iR.trans mL)) ae _ _ _ _ _)
open Go.RowKit Fp
abbrev DV(d:Dy)(A:Option Addr)(c:Nat):Value:=.agg #[.bool d.neg,.slice A (dN d.m).length c,.int .i64 d.e]
theorem A4{n k:Nat}(h:dU n<=32*k):(dN n).length<=k:=by
 refine qA (a7 (mE _) ?_);rw[kQ];exact aR ag h
theorem Fp.Dy.Valid.qV{d:Dy}(h:d.Valid):kr d.neg (dN d.m) d.e:=by
 refine⟨qK _,A4 ?_,by rw[eV];exact h⟩;rcases h.range with h0|⟨h1,_⟩
 .rw [h0];exact bq _
 .omega
theorem Fp.Dy.Valid.len{d:Dy}(h:d.Valid):(dN d.m).length<=256:=h.qV.2.1
theorem Fp.Dy.Valid.exp{d:Dy}(h:d.Valid):-16384<=d.e/\d.e<=16384:=h.qV.exp
theorem Fp.Dy.Valid.bits{d:Dy}(h:d.Valid):dU d.m<=4096:=by have:=h.qV.bits;rwa[eV]at this
theorem Fp.Dy.Valid.Rv{d:Dy}(h:d.Valid)(h0:d.m≠0):(dU d.m:Int)+d.e<=16384:=by
 rcases h.range with h|⟨_,_,_,h⟩
 .exact absurd h h0
 .exact h
theorem eJ.vF{w:World}{g n c:Nat}{s:Bool}{A:Option Addr}{e:Int}(h:eJ w g s A n c e){g':Nat}(fK:g'≠g)(i:Nat)(v:Value):eJ (w.setCell ⟨g',i,none⟩ v) g s A n c e:=by
 unfold eJ at h ⊢;simp only[World.setCell,agD];rw[aB fK];exact h
theorem eJ.rU{w:World}{g n c:Nat}{s:Bool}{A:Option Addr}{e:Int}(h:eJ w g s A n c e){g':Nat}(fK:g'≠g)(v0 v1 v2:Value):
 eJ (((w.setCell ⟨g',0,none⟩ v0).setCell ⟨g',1,none⟩ v1).setCell ⟨g',2,none⟩ v2) g s A n c e:=((h.vF fK 0 v0).vF fK 1 v1).vF fK 2 v2
structure ub(d:Dy):Prop where
 len:(dN d.m).length<=256
 lo:-17000<=d.e
 hi:d.e<=17000
theorem Fp.Dy.Valid.uN{d:Dy}(h:d.Valid):ub d:=⟨h.len,by have:=h.exp;omega,by have:=h.exp;omega⟩
theorem VH(a b:Dy)(A B:Option Addr)(c d:Nat)(w:World)(h:Sl w A c (dN a.m))(k:Sl w B d (dN b.m))(ha:a.Valid)(hb:b.Valid):
 Calls Tryz.prog 37 #[DV a A c,DV b B d] w fun e w'=>e = .returned (.int .i64 (ew a b))/\Ext w w':=by
 have:=VG a.neg A c (dN a.m) a.e b.neg B d (dN b.m) b.e w h k ha.qV hb.qV;rw[eV,eV]at this;exact this
theorem VE(a:Dy)(A:Option Addr)(c:Nat)(w:World)(h:Sl w A c (dN a.m))(ha:a.Valid):
 Calls Tryz.prog 295 #[DV a A c] w fun e w'=>e = .returned (.int .i64 (dU a.m))/\Ext w w':=by
 have:=VD a.neg A c (dN a.m) a.e w h ha.qV;rw[eV]at this;exact this
theorem VL(a:Dy)(A:Option Addr)(c:Nat)(w:World)(h:Sl w A c (dN a.m))(ha:a.Valid):
 Calls Tryz.prog 35 #[DV a A c] w fun e w'=>e = .returned (.int .i64 a.sign)/\Ext w w':=by
 have:=FB a.neg A c (dN a.m) a.e w h ha.qV;rw[eV]at this;exact this
theorem CF(a:Dy)(A:Option Addr)(c:Nat)(w:World)(h:Sl w A c (dN a.m))(ha:a.Valid):
 Calls Tryz.prog 68 #[DV a A c] w fun e w'=>e = .returned (.bool true)/\Ext w w':=
 vD a.neg A c (dN a.m) a.e w true h (by have:=ha.exp;omega) (by have:=ha.exp;omega) (by simp[ha.qV])
open Go.RowKit Fp Pu
theorem J1:∀ w w',Tb w->Below w.heap.size w w'->Tb w':=fun _ _ h hb=>h.below hb
theorem mixed:Tryz.prog.follows .mixedOrders=true:= ah 
abbrev dM(f:FuncId)(args:List E)(fu:E):Prop:=PC Tryz.prog Tb f args fu
def dO(L:List Nat):E:=.sl false L.length 1 fun i _=>.v (.int .u32 (L.getD i 0:Int))
def dP(d:Dy):E:=.agg [.v (.bool d.neg),dO (dN d.m),.v (.int .i64 d.e)]
abbrev iP(z:Int):E:=.v (.int .i64 z)
abbrev bP(b:Bool):E:=.v (.bool b)
theorem qJ{bs br:Nat->Prop}{w:World}{L:List Nat}{v:Value}(hk:ej L)(h:eo bs br w (dO L) v):∃ A c,v = .slice A L.length c/\Sl w A c L:=by
 cases h with
 | sl _ _ _ _ A c f hc hm h0 hl hr cell kk=>
  refine⟨A,c,rfl,hc,hm,hk,h0,fun i x hx=>?_⟩;obtain⟨hi,jD⟩:=bA.1 hx;obtain⟨b,o,e1,_,ek,gG⟩:=cell i 0 hi ag;have hv:=eo.gn (kk i 0 hi ag);refine⟨b,o,e1,ek,?_⟩;rw[bD,bd,hv]at gG;rw[gG];simp[aF,hx]
theorem u5{B br:Nat->Prop}{w w':World}{A:Option Addr}{c:Nat}{L:List Nat}(hB:∀ b,B b->b<w.heap.size/\ks w b)(hb:Ext w w')(h:Sl w' A c L):eo B br w' (dO L) (.slice A L.length c):=by
 refine .sl false L.length 1 _ A c (fun i _=>.int .u32 (L.getD i 0:Int)) h.cap h.lq h.none_ (fun i j _ _=>⟨rfl,fun h=>by cases h⟩) (fun i j _ _=>rfl) (fun i j hi hj=>?_) (fun i j _ _=>.v _)
 .obtain rfl:j=0:= ae 
  obtain⟨b,o,e1,ek,gG⟩:=h.at_ hi;have e2:L.getD i 0=L[i]:=by simp[aF,hi]
  refine⟨b,o,e1,fun r6=>?_,ek,by rw[bD,bd,gG,e2]⟩;obtain⟨h1,h2⟩:=hB b r6;exact(h2.yP (hb.block b h1)) _ _ gG
theorem CE{bs br:Nat->Prop}{w:World}{d:Dy}{v:Value}(h:eo bs br w (dP d) v):∃ A c,v=DV d A c/\Sl w A c (dN d.m):=by
 obtain⟨vs,rfl,q⟩:=eo.xh (show eo bs br w (.agg _) v from h);obtain⟨v1,vs,rfl,h1,q⟩:=q.iw;obtain⟨v2,vs,rfl,h2,q⟩:=q.iw;obtain⟨v3,vs,rfl,h3,q⟩:=q.iw;obtain rfl:=q.lV;obtain rfl:=eo.gn h1;obtain rfl:=eo.gn h3;obtain⟨A,c,rfl,hs⟩:=qJ (gr _) h2;exact⟨A,c,rfl,hs⟩
theorem LA{B br:Nat->Prop}{w w':World}{A:Option Addr}{c:Nat}{d:Dy}(hB:∀ b,B b->b<w.heap.size/\ks w b)(hb:Ext w w')(h:Sl w' A c (dN d.m)):eo B br w' (dP d) (DV d A c):=
 fM.agg (.cons (.v _) (.cons (u5 hB hb h) (.cons (.v _) (.nil _ _ _))))
section
variable {f:FuncId} {a b:Dy}
theorem sw(hc:∀ (vs:Array Value) (w:World),(callFunc f vs).run Tryz.prog w = .ok (.enter f vs) w){fu:E}{R:World->Ending->World->Prop}
 (H:∀ A c w,Sl w A c (dN a.m)->Tb w->Calls Tryz.prog f #[DV a A c] w (R w)) (hR:∀ (B:Nat->Prop) w e w',(∀ b,B b->b<w.heap.size/\ks w b)->R w e w'->∃ v,e = .returned v/\Below w.heap.size w w'/\eo B (fun _=>True) w' fu v):dM f [dP a] fu:=by
 refine⟨hc,fun w B vs hK hB hr=>?_⟩;obtain⟨v1,vs,rfl,h1,hr⟩:=hr.iw;obtain rfl:=hr.lV;obtain⟨A,c,rfl,s1⟩:=CE h1;exact(H A c w s1 hK).mono fun e w' h=>hR B w e w' hB h
theorem II(hc:∀ (vs:Array Value) (w:World),(callFunc f vs).run Tryz.prog w = .ok (.enter f vs) w){fu:E}{R:World->Ending->World->Prop}
 (H:∀ A c A' c' w,Sl w A c (dN a.m)->Sl w A' c' (dN b.m)->Tb w->Calls Tryz.prog f #[DV a A c,DV b A' c'] w (R w)) (hR:∀ (B:Nat->Prop) w e w',(∀ b,B b->b<w.heap.size/\ks w b)->R w e w'->∃ v,e = .returned v/\Below w.heap.size w w'/\eo B (fun _=>True) w' fu v):dM f [dP a,dP b] fu:=by
 refine⟨hc,fun w B vs hK hB hr=>?_⟩;obtain⟨v1,vs,rfl,h1,hr⟩:=hr.iw;obtain⟨v2,vs,rfl,h2,hr⟩:=hr.iw;obtain rfl:=hr.lV;obtain⟨A,c,rfl,s1⟩:=CE h1;obtain⟨A',c',rfl,s2⟩:=CE h2;exact(H A c A' c' w s1 s2 hK).mono fun e w' h=>hR B w e w' hB h
end
theorem rv{x:Value}:∀ (B:Nat->Prop) (w:World) (e:Ending) (w':World),(∀ b,B b->b<w.heap.size/\ks w b)->(e = .returned x/\Ext w w')->∃ v,e = .returned v/\Below w.heap.size w w'/\eo B (fun _=>True) w' (.v x) v:=
 fun _ _ _ _ _ h=>⟨x,h.1,h.2,.v x⟩
theorem rd{d:Dy}:∀ (B:Nat->Prop) (w:World) (e:Ending) (w':World),(∀ b,B b->b<w.heap.size/\ks w b)->rK w d e w'->∃ v,e = .returned v/\Below w.heap.size w w'/\eo B (fun _=>True) w' (dP d) v:=
 fun _ _ _ _ hB ⟨_,_,h1,h2,h3⟩=>⟨_,h1,h3,LA hB h3 h2⟩
theorem BB{d:Dy}{n:Int}:∀ (B:Nat->Prop) (w:World) (e:Ending) (w':World),(∀ b,B b->b<w.heap.size/\ks w b)->oQ w d n e w'->∃ v,e = .returned v/\Below w.heap.size w w'/\eo B (fun _=>True) w' (.ef [dP d,iP n]) v:=
 fun _ _ _ _ hB ⟨_,_,h1,h2,h3⟩=>⟨_,h1,h3,fM.ef (.cons (LA hB h3 h2) (.cons (.v _) (.nil _ _ _)))⟩
theorem rG:E.le (.agg [bP false,.v (.slice none 0 0),iP 0]) (dP eW):=by
 have:dP eW = .agg [bP false,.sl false 0 1 fun i _=>.v (.int .u32 (((dN 0).getD i 0:Nat):Int)),iP 0]:=by
  show E.agg [bP false,dO (dN 0),iP 0]=_;unfold dO;rw[j8];rfl
 rw[this];exact .agg (.cons (.refl _) (.cons (.nil _ _ _) (.cons (.refl _) .nil)))
theorem gU(a b:Dy)(ha:a.Valid)(hb:b.Valid):dM 37 [dP a,dP b] (iP (ew a b)):=II Tryz.call37 (fun A c A' c' w h k _=>VH a b A A' c c' w h k ha hb) rv
theorem jN(a:Dy)(ha:a.Valid):dM 35 [dP a] (iP a.sign):=sw Tryz.call35 (fun A c w h _=>VL a A c w h ha) rv
theorem lK(a:Dy)(ha:a.Valid):dM 68 [dP a] (bP true):=sw Tryz.call68 (fun A c w h _=>CF a A c w h ha) rv
theorem CC(a:Dy)(ha:a.Valid):dM 295 [dP a] (iP (dU a.m)):=sw Tryz.call295 (fun A c w h _=>VE a A c w h ha) rv
open Go.RowKit Fp Pu
def TT:List TI:=[
 ⟨3,.int .i64,⟨.int .i64, "int", 1,8,false,8,8,some (.int .i64 0),true,#[]⟩⟩,
 ⟨4,.bool,⟨.bool, "bool", 1,1,false,1,1,some (.bool false),true,#[]⟩⟩,
 ⟨5,.int .u8,⟨.int .u8, "uint8", 1,1,false,1,1,some (.int .u8 0),true,#[]⟩⟩,
 ⟨9,.string,⟨.string, "string", 1,16,true,8,8,some (.string ⟨#[]⟩),true,#[]⟩⟩,
 ⟨22,.slice 99,⟨.slice 99, "[]api.Op", 1,24,true,8,8,some (.slice none 0 0),false,#[]⟩⟩,
 ⟨23,.slice 3,⟨.slice 3, "[]int", 1,24,true,8,8,some (.slice none 0 0),false,#[]⟩⟩,
 ⟨25,.struct #[⟨"Ins", 3,0,false, "", "", 0⟩,⟨"Ops", 22,1,false, "", "", 8⟩,⟨"Outs", 23,2,false, "", "", 32⟩],⟨.named "flowpipe/api.Tape" 24, "api.Tape", 3,56,true,8,8,some (.agg #[.int .i64 0,.slice none 0 0,.slice none 0 0]),false,#[]⟩⟩,
 ⟨26,.slice 41,⟨.slice 41, "[]api.Interval", 1,24,true,8,8,some (.slice none 0 0),false,#[]⟩⟩,
 ⟨28,.struct #[⟨"Tape", 25,0,false, "", "", 0⟩,⟨"States", 3,3,false, "", "", 56⟩,⟨"Params", 26,4,false, "", "", 64⟩],⟨.named "flowpipe/api.System" 27, "api.System", 5,88,true,8,8,some (.agg #[.int .i64 0,.slice none 0 0,.slice none 0 0,.int .i64 0,.slice none 0 0]),false,#[]⟩⟩,
 ⟨29,.slice 79,⟨.slice 79, "[]uint32", 1,24,true,8,8,some (.slice none 0 0),false,#[]⟩⟩,
 ⟨31,.struct #[⟨"Neg", 4,0,false, "", "", 0⟩,⟨"M", 29,1,false, "", "", 8⟩,⟨"E", 3,2,false, "", "", 32⟩],⟨.named "flowpipe/api.Dyadic" 30, "api.Dyadic", 3,40,true,8,8,some (.agg #[.bool false,.slice none 0 0,.int .i64 0]),false,#[]⟩⟩,
 ⟨34,.func #[26] #[4] false,⟨.func #[26] #[4] false, "func([]api.Interval) bool", 1,8,true,8,8,some (.nilFunc),false,#[]⟩⟩,
 ⟨41,.struct #[⟨"Lo", 31,0,false, "", "", 0⟩,⟨"Hi", 31,3,false, "", "", 40⟩,⟨"All", 4,6,false, "", "", 80⟩],⟨.named "flowpipe/api.Interval" 40, "api.Interval", 7,88,true,8,8,some (.agg #[.bool false,.slice none 0 0,.int .i64 0,.bool false,.slice none 0 0,.int .i64 0,.bool false]),false,#[]⟩⟩,
 ⟨42,.func #[41] #[4] false,⟨.func #[41] #[4] false, "func(api.Interval) bool", 1,8,true,8,8,some (.nilFunc),false,#[]⟩⟩,
 ⟨45,.int .i64,⟨.named "flowpipe/api.Errno" 3, "api.Errno", 1,8,false,8,8,some (.int .i64 0),true,#[]⟩⟩,
 ⟨49,.slice 5,⟨.slice 5, "[]uint8", 1,24,true,8,8,some (.slice none 0 0),false,#[]⟩⟩,
 ⟨62,.func #[31,3] #[31,45] false,⟨.func #[31,3] #[31,45] false, "func(api.Dyadic, int) (api.Dyadic, api.Errno)", 1,8,true,8,8,some (.nilFunc),false,#[]⟩⟩,
 ⟨67,.func #[41,41,3] #[41] false,⟨.func #[41,41,3] #[41] false, "func(api.Interval, api.Interval, int) api.Interval", 1,8,true,8,8,some (.nilFunc),false,#[]⟩⟩,
 ⟨68,.func #[3] #[4] false,⟨.func #[3] #[4] false, "func(int) bool", 1,8,true,8,8,some (.nilFunc),false,#[]⟩⟩,
 ⟨71,.func #[41,41] #[4] false,⟨.func #[41,41] #[4] false, "func(api.Interval, api.Interval) bool", 1,8,true,8,8,some (.nilFunc),false,#[]⟩⟩,
 ⟨79,.int .u32,⟨.int .u32, "uint32", 1,4,false,4,4,some (.int .u32 0),true,#[]⟩⟩,
 ⟨87,.slice 26,⟨.slice 26, "[][]api.Interval", 1,24,true,8,8,some (.slice none 0 0),false,#[]⟩⟩,
 ⟨97,.struct #[⟨"N", 3,0,false, "", "", 0⟩,⟨"D", 3,1,false, "", "", 8⟩],⟨.named "flowpipe/api.Ratio" 96, "api.Ratio", 2,16,false,8,8,some (.agg #[.int .i64 0,.int .i64 0]),true,#[]⟩⟩,
 ⟨99,.struct #[⟨"Kind", 3,0,false, "", "", 0⟩,⟨"A", 3,1,false, "", "", 8⟩,⟨"B", 3,2,false, "", "", 16⟩,⟨"N", 3,3,false, "", "", 24⟩,⟨"C", 97,4,false, "", "", 32⟩],⟨.named "flowpipe/api.Op" 98, "api.Op", 6,48,false,8,8,some (.agg #[.int .i64 0,.int .i64 0,.int .i64 0,.int .i64 0,.int .i64 0,.int .i64 0]),true,#[]⟩⟩,
 ⟨108,.slice 110,⟨.slice 110, "[][2]api.Dyadic", 1,24,true,8,8,some (.slice none 0 0),false,#[]⟩⟩,
 ⟨110,.array 2 31,⟨.array 2 31, "[2]api.Dyadic", 6,80,true,8,8,some (.agg #[.bool false,.slice none 0 0,.int .i64 0,.bool false,.slice none 0 0,.int .i64 0]),false,#[]⟩⟩,
 ⟨123,.int .u64,⟨.int .u64, "uint64", 1,8,false,8,8,some (.int .u64 0),true,#[]⟩⟩,
 ⟨124,.int .u64,⟨.int .u64, "uint", 1,8,false,8,8,some (.int .u64 0),true,#[]⟩⟩,
 ⟨129,.func #[31,31,3] #[31,45] false,⟨.named "flowpipe/interval.rounded" 91, "interval.rounded", 1,8,true,8,8,some (.nilFunc),false,#[]⟩⟩,
 ⟨130,.array 4 110,⟨.array 4 110, "[4][2]api.Dyadic", 24,320,true,8,8,some (.agg #[.bool false,.slice none 0 0,.int .i64 0,.bool false,.slice none 0 0,.int .i64 0,.bool false,.slice none 0 0,.int .i64 0,.bool false,.slice none 0 0,.int .i64 0,.bool false,.slice none 0 0,.int .i64 0,.bool false,.slice none 0 0,.int .i64 0,.bool false,.slice none 0 0,.int .i64 0,.bool false,.slice none 0 0,.int .i64 0]),false,#[]⟩⟩,
 ⟨148,.struct #[⟨"m", 29,0,false, "", "flowpipe/round", 0⟩,⟨"e", 3,1,false, "", "flowpipe/round", 24⟩,⟨"more", 4,2,false, "", "flowpipe/round", 32⟩],⟨.named "flowpipe/round.exact" 147, "round.exact", 3,40,true,8,8,some (.agg #[.slice none 0 0,.int .i64 0,.bool false]),false,#[]⟩⟩,
 ⟨161,.slice 29,⟨.slice 29, "[][]uint32", 1,24,true,8,8,some (.slice none 0 0),false,#[]⟩⟩,
 ⟨163,.func #[29] #[4] false,⟨.func #[29] #[4] false, "func([]uint32) bool", 1,8,true,8,8,some (.nilFunc),false,#[]⟩⟩,
 ⟨168,.struct #[⟨"o", 99,0,false, "", "flowpipe/gradient", 0⟩,⟨"v", 41,6,false, "", "flowpipe/gradient", 48⟩,⟨"a", 41,13,false, "", "flowpipe/gradient", 136⟩,⟨"b", 41,20,false, "", "flowpipe/gradient", 224⟩,⟨"da", 41,27,false, "", "flowpipe/gradient", 312⟩,⟨"db", 41,34,false, "", "flowpipe/gradient", 400⟩,⟨"p", 3,41,false, "", "flowpipe/gradient", 488⟩],⟨.named "flowpipe/gradient.node" 167, "gradient.node", 42,496,true,8,8,some (.agg #[.int .i64 0,.int .i64 0,.int .i64 0,.int .i64 0,.int .i64 0,.int .i64 0,.bool false,.slice none 0 0,.int .i64 0,.bool false,.slice none 0 0,.int .i64 0,.bool false,.bool false,.slice none 0 0,.int .i64 0,.bool false,.slice none 0 0,.int .i64 0,.bool false,.bool false,.slice none 0 0,.int .i64 0,.bool false,.slice none 0 0,.int .i64 0,.bool false,.bool false,.slice none 0 0,.int .i64 0,.bool false,.slice none 0 0,.int .i64 0,.bool false,.bool false,.slice none 0 0,.int .i64 0,.bool false,.slice none 0 0,.int .i64 0,.bool false,.int .i64 0]),false,#[]⟩⟩,
 ⟨170,.slice 31,⟨.slice 31, "[]api.Dyadic", 1,24,true,8,8,some (.slice none 0 0),false,#[]⟩⟩,
 ⟨201,.struct #[⟨"p", 3,0,false, "", "flowpipe/exponent", 0⟩],⟨.named "flowpipe/exponent.work" 200, "exponent.work", 1,8,false,8,8,some (.agg #[.int .i64 0]),true,#[⟨"flowpipe/exponent.add", 136,#[],some (308,false)⟩,⟨"flowpipe/exponent.div", 136,#[],some (307,false)⟩,⟨"flowpipe/exponent.exp", 177,#[],some (320,false)⟩,⟨"flowpipe/exponent.halved", 179,#[],some (306,false)⟩,⟨"flowpipe/exponent.log", 177,#[],some (309,false)⟩,⟨"flowpipe/exponent.mul", 136,#[],some (310,false)⟩,⟨"flowpipe/exponent.small", 42,#[],some (322,false)⟩]⟩⟩,
 ⟨209,.struct #[⟨"neg", 4,0,false, "", "flowpipe/circle", 0⟩,⟨"m", 29,1,false, "", "flowpipe/circle", 8⟩],⟨.named "flowpipe/circle.fix" 208, "circle.fix", 2,32,true,8,8,some (.agg #[.bool false,.slice none 0 0]),false,#[⟨"flowpipe/circle.add", 220,#[],some (335,false)⟩,⟨"flowpipe/circle.by", 216,#[],some (342,false)⟩,⟨"flowpipe/circle.minus", 214,#[],some (326,false)⟩,⟨"flowpipe/circle.times", 217,#[],some (332,false)⟩,⟨"flowpipe/circle.zero", 32,#[],some (336,false)⟩]⟩⟩,
 ⟨220,.func #[209] #[209] false,⟨.func #[209] #[209] false, "func(circle.fix) circle.fix", 1,8,true,8,8,some (.nilFunc),false,#[]⟩⟩]
theorem EO:iC Tryz.prog TT:=Cb.ok ⟨⟨Tryz.underlying3, ah⟩,⟨Tryz.underlying4, ah⟩,⟨Tryz.underlying5, ah⟩,⟨Tryz.underlying9, ah⟩,⟨Tryz.underlying22, ah⟩,⟨Tryz.underlying23, ah⟩,⟨Tryz.underlying25, ah⟩,⟨Tryz.underlying26, ah⟩,⟨Tryz.underlying28, ah⟩,⟨Tryz.underlying29, ah⟩,⟨Tryz.underlying31, ah⟩,⟨Tryz.underlying34, ah⟩,⟨Tryz.underlying41, ah⟩,⟨Tryz.underlying42, ah⟩,⟨Tryz.underlying45, ah⟩,⟨Tryz.underlying49, ah⟩,⟨Tryz.underlying62, ah⟩,⟨Tryz.underlying67, ah⟩,⟨Tryz.underlying68, ah⟩,⟨Tryz.underlying71, ah⟩,⟨Tryz.underlying79, ah⟩,⟨Tryz.underlying87, ah⟩,⟨Tryz.underlying97, ah⟩,⟨Tryz.underlying99, ah⟩,⟨Tryz.underlying108, ah⟩,⟨Tryz.underlying110, ah⟩,⟨Tryz.underlying123, ah⟩,⟨Tryz.underlying124, ah⟩,⟨Tryz.underlying129, ah⟩,⟨Tryz.underlying130, ah⟩,⟨Tryz.underlying148, ah⟩,⟨Tryz.underlying161, ah⟩,⟨Tryz.underlying163, ah⟩,⟨Tryz.underlying168, ah⟩,⟨Tryz.underlying170, ah⟩,⟨Tryz.underlying201, ah⟩,⟨Tryz.underlying209, ah⟩,⟨Tryz.underlying220, ah⟩,trivial⟩
end Go.Proofs.YtdgnpeddgdclhaaGreatDoor
namespace Go.Proofs.YtdgnpeddgdclhaaGreatDoor.Pu
open Go.RowKit
def E.mi:E->Nat->Nat->E
 | .sl _ _ _ el,i,j=>el i j
 | _,_,_=>.any
section
variable {P:Program} {K:World->Prop}
theorem Sp.pre{c:Code}{σ τ:PS}{Q:Ex->PS->Prop}(h:PS.le σ τ)(k:Sp P K c τ Q):Sp P K c σ Q:=fun w0 B a w L g r=>
 let⟨L',r'⟩:=h w0 B a w L (fun b hb=>(g.hB b hb).1) r;k w0 B a w L' g r'
theorem Sp.post{c:Code}{σ:PS}{Q Q':Ex->PS->Prop}(h:Sp P K c σ Q)(k:∀ e τ,Q e τ->∃ τ',PS.le τ τ'/\Q' e τ'):Sp P K c σ Q':=fun w0 B a w L g r=>
 Code.wp_mono (fun _ _ _ ⟨ex,τ,L',h1,h2,h3⟩=>let⟨τ',q1,q2⟩:=k ex τ h2;let⟨L2,r2⟩:=q1 w0 B _ _ L' (fun b hb=>(g.hB b hb).1) h3;⟨ex,τ',L2,h1,q2,r2⟩) (h w0 B a w L g r)
theorem Sp.WE{α:Type}(f:α->PS)(p:α->Prop)(m:α->Nat){b:Code}{e:Ex}{τ:PS}
 (step:∀ x,p x->Sp P K b (f x) (fun e' υ=>(e' = .normal/\∃ y,p y/\m y<m x/\υ=f y)\/(e' ≠ .normal/\e'=e/\υ=τ))) {σ:PS} (x:α) (hx:p x) (h0:PS.le σ (f x)):
 Sp P K (.loop b) σ (fun e' υ=>e'=e/\υ=τ):=by
 refine Sp.pre h0 ?_;refine Sp.loop (Q:=fun e' υ=>e'=e/\υ=τ) (fun n σ=>∃ x,p x/\m x=n/\σ=f x) (fun n σ ⟨x,h1,h2,h3⟩=>?_) (m x) (f x) ⟨x,hx,rfl,rfl⟩;subst h3 h2;exact(step x h1).mono fun e' υ h=>h.imp (fun⟨q1,y,q2,q3,q4⟩=>⟨q1,m y,q3,y,q2,rfl,q4⟩) id
theorem Sp.WG{α:Type}{f:α->PS}{p:α->Prop}{m:α->Nat}{b:Code}{e:Ex}{τ υ:PS}{x:α}(y:α)(h:Sp P K b (f x) (fun e' υ'=>e' = .normal/\υ'=υ))(hy:p y)(hm:m y<m x)(hl:PS.le υ (f y)):
 Sp P K b (f x) (fun e' υ=>(e' = .normal/\∃ y,p y/\m y<m x/\υ=f y)\/(e' ≠ .normal/\e'=e/\υ=τ)):=
 h.post fun _ _ ⟨h1,h2⟩=>⟨f y,h2▸hl,.inl ⟨h1,y,hy,hm,rfl⟩⟩
theorem Sp.WH{α:Type}{f:α->PS}{p:α->Prop}{m:α->Nat}{b:Code}{e:Ex}{τ υ:PS}{x:α}(h:Sp P K b (f x) (fun e' υ'=>e'=e/\υ'=υ))(he:e ≠ .normal)(hl:PS.le υ τ):
 Sp P K b (f x) (fun e' υ=>(e' = .normal/\∃ y,p y/\m y<m x/\υ=f y)\/(e' ≠ .normal/\e'=e/\υ=τ)):=
 h.post fun _ _ ⟨h1,h2⟩=>⟨τ,h2▸hl,.inr ⟨h1▸he,h1,rfl⟩⟩
end
def uK(k:Nat):Code->Option Code
 | .loop b=>if Nat.beq (Ae b) k then some b else uK k b
 | .seq a b=>match uK k a with
  | some c=>some c
  | none=>uK k b
 | .cond _ a b=>match uK k a with
  | some c=>some c
  | none=>uK k b
 | .block _ b=>uK k b
 | .scope b=>uK k b
 | _=>none
def TM(k:Nat)(fn:Func):Code:=((fn.body.bind (uK k)).getD .skip)
theorem Bx.le.of_eq{a b:Bx}(h:a=b):Bx.le a b:=h▸Bx.le.refl a
theorem Bx.le.cells{T:TypeId}{l m:List E}(hn:(l.all E.jj=true->m.all E.jj=true))(h:pq l m):Bx.le (.cells T l) (.cells T m):=⟨hn,fun _ _ _ _ _ ⟨b,vs,h1,h2,h3,h4,h5⟩=>⟨b,vs,h1,h2,h3,h.D7 h4,h5⟩⟩
theorem Bx.le.row{nl:Bool}{T:TypeId}{n n' sz:Nat}{el el':Nat->Nat->E}(hn:n=n')(h:∀ i j,i<n->j<sz->E.le (el i j) (el' i j)/\(el' i j).nr 2=true):Bx.le (.row nl T n sz el) (.row nl T n' sz el'):=
 ⟨id,fun _ _ _ _ _ ⟨f,h1,h2,h3⟩=>by subst hn;exact⟨f,h1,h2,fun i j hi hj=>⟨(h i j hi hj).1 _ _ _ _ (h3 i j hi hj).1,(h i j hi hj).2⟩⟩⟩
theorem PS.le.aan{σ τ:PS}(hn:σ.n=τ.n)(fE:(τ.b.all fun x=>x.2.nl)=true)(hr:BC τ=true)(ht:rH σ τ.t)(hb:qN σ τ.b):PS.le σ τ:=fun w0 B a w L _ r=>by
 let L':Lk:=⟨fun id=>L.live id/\(τ.bo id).isSome=true,fun id x=>L.own id x/\(τ.bo id).isSome=true,L.val,L.eK⟩
 have ek:oP L w L' w:=⟨aG _,fun x _ ⟨id,h,_⟩=>⟨id,h⟩,fun _ _ _=>rfl⟩
 refine⟨L',r.hd,by rw[<-hn];exact r.hs,fun t=>?_,fun id b h=>?_,fun id=>?_,fun id x h=>⟨r.hn id x h.1,h.2⟩,fun id x h=>r.hw id x h.1,fun id id' x h k=>r.hi id id' x h.1 k.1,r.he,fun h id b k=>?_⟩
 .have hg:τ.get t=((look τ.t t)).getD (.e .any):=rfl
  cases hl:look τ.t t with
  | none=>rw[hg,hl];exact .any _
  | some p=>
   rw[hg,hl];have:=ht.get hl _ _ _ _ _ (r.ht t);refine jA.move ek this fun id hid qp=>⟨⟨qp,?_⟩,rfl,fun _=>rfl⟩
   have q:=bg.1 hr _ (Ib hl);exact bg.1 q id hid
 .obtain ⟨b',h1,h2⟩:=hb.get h
  have hs:(τ.bo id).isSome=true:=by rw[h];rfl
  exact(h2.2 _ _ _ _ _ (r.hb id b' h1)).later ek rfl (fun x=>⟨fun q=>q.1,fun q=>⟨q,hs⟩⟩) (fun _=>rfl) fun _ _=>rfl
 .show L.live id/\(τ.bo id).isSome=true↔(τ.bo id).isSome=true
  refine⟨fun h=>h.2,fun h=>⟨(r.hv id).2 ?_,h⟩⟩;obtain⟨b,fQ⟩:=ahi.1 h;obtain⟨b',h1,_⟩:=hb.get fQ;rw[h1];rfl
 .exact bg.1 fE _ (Ib k)
def PV.rV(id:Nat)(e:E)(p:PV):PV:=match p with
 | .own i=>if Nat.beq i id then .e e else .own i
 | p=>if p.refs.any (Nat.beq id)then .e .any else p
def PS.rV(σ:PS)(id:Nat)(e:E):PS:={ σ with t:=σ.t.map fun x=>(x.1,x.2.rV id e),b:=σ.b.filter fun x=>!Nat.beq x.1 id }
def Bx.as:Bx->Option E
 | .row nl _ n sz el=>some (.sl nl n sz el)
 | .rows nl _ _ n sz len el none=>some (.sl true n 1 fun k _=>.sl nl (len k) sz (el k))
 | _=>none
theorem PS.le.freeze{σ:PS}(id:Nat){b:Bx}{e:E}(fQ:σ.bo id=some b)(he:b.as=some e):PS.le σ (σ.rV id e):=fun w0 B a w L hB r=>by
 let L':Lk:=⟨fun i=>L.live i/\i≠id,fun i x=>L.own i x/\i≠id,L.val,L.eK⟩
 have ek:oP L w L' w:=⟨aG _,fun x _ ⟨i,h,_⟩=>⟨i,h⟩,fun _ _ _=>rfl⟩
 have q7:∀ i,(σ.rV id e).bo i=if i=id then none else σ.bo i:=by
  intro i;unfold PS.bo PS.rV;by_cases h:i=id
  .subst h;simp only[aW];exact Ou _ _
  .rw [aB h];exact A7 _ _ _ (fun e=>h e.symm)
 have r6:∀ x,L.own id x->¬bad B L' x:=by
  rintro x hx (h|⟨i,h1,h2⟩)
  .have:=hB x h;have:=(r.hw id x hx).1;omega
  .exact h2 (r.hi i id x h1 hx)
 have own:∀ (v:Value) (T:TypeId) (n sz:Nat) (f:Nat->Nat->Value) (nl:Bool) (el:Nat->Nat->E),me w v T n sz f nl->(∀ x,v.ownBlock=some x->L.own id x) ->
  (∀ i j,i<n->j<sz->eo (bad B L) (fH L) w (el i j) (f i j)/\(el i j).nr 2=true)->eo (bad B L') (fH L') w (.sl nl n sz el) v:=by
  intro v T n sz f nl el h1 h2 h3;rcases h1 with⟨rfl,rfl⟩|⟨b,c,cur,rfl,hg,lj,kv,jB,gG,fE⟩
  .exact .sl nl 0 sz el none 0 f (aG _) ag (fun _=>rfl) (fun i j hi=>absurd hi (aV i)) (fun i j hi=>absurd hi (aV i)) (fun i j hi=>absurd hi (aV i)) (fun i j hi=>absurd hi (aV i))
  .have mZ:=h2 b rfl
   refine .sl nl n sz el _ c f lj (by unfold maxLen at kv;omega) (fun h=>by cases h) (fun i j hi hj=>⟨(gG i j hi hj).2,fun hn=>fE hn _ (cR (gG i j hi hj).1)⟩) (fun i j hi hj=>(h3 i j hi hj).2)
    (fun i j hi hj=>⟨b,0,rfl,r6 b mZ,(r.hw id b mZ).2,?_⟩) (fun i j hi hj=>ek.rep (h3 i j hi hj).1)
   rw[bK];simp only[World.cell?,hg];simpa using(gG i j hi hj).1
 have hold:∀ v,v=L.val id->eo (bad B L') (fH L') w e v:=by
  rintro v rfl;have C3:=r.hb id b fQ;cases b with
  | cells T l=>cases he
  | row nl T n sz el=>
   cases he;obtain⟨f,h1,h2,h3⟩:=C3;exact own _ T n sz f nl el h1 (fun x hx=>(h2 x).2 hx) h3
  | rows nl T1 T0 n sz len el pend=>
   cases pend with
   | some k=>cases he
   | none=>
    cases he;obtain⟨b,c,cur,f,h1,h2,h3,h4,h5,h6,h7,h8,h9,qY,rW⟩:=C3;have mZ:L.own id b:=(h9 b).2 (.inl rfl);rw[h1];refine .sl true n 1 _ _ c (fun k _=>L.eK id k) h3 (by unfold maxLen at h4;omega) (fun h=>by cases h) (fun k j hk hj=>?_) (fun k j hk hj=>rfl)
     (fun k j hk hj=>⟨b,0,rfl,r6 b mZ,(r.hw id b mZ).2,?_⟩) (fun k j hk hj=>own _ T0 (len k) sz (f k) nl (el k) (h8 k hk).1 (fun x hx=>(h9 x).2 (.inr ⟨k,hk,hx⟩)) (h8 k hk).2)
    .obtain ⟨q1,q2⟩:=h7 _ (cR (h6 k hk aj))
     exact⟨q1,fun _=>q2⟩
    .rw [bK,bD]
     obtain rfl:j=0:= ae ;simp only[World.cell?,h2];simpa using h6 k hk aj 
 refine⟨L',r.hd,r.hs,fun t=>?_,fun i b' h=>?_,fun i=>?_,fun i x h=>⟨r.hn i x h.1,h.2⟩,fun i x h=>r.hw i x h.1,fun i i' x h k=>r.hi i i' x h.1 k.1,r.he,fun h i b' k=>?_⟩
 .have hg:(σ.rV id e).get t=(σ.get t).rV id e:=by
   unfold PS.get PS.rV;rw[Ov];cases look σ.t t<;>rfl
  rw[hg];have k:=r.ht t;generalize σ.get t=p at k;have move:∀ (p:PV) (v:Value),jA (bad B L) (fH L) L w p v->(p.refs.any (Nat.beq id))=false->jA (bad B L') (fH L') L' w p v:=by
   intro p v k hp;refine jA.move ek k fun i hi qp=>⟨⟨qp,?_⟩,rfl,fun _=>rfl⟩
   rintro rfl;have:=dv.1 hp i hi;simp at this
  have gen:∀ (p:PV) (v:Value),jA (bad B L) (fH L) L w p v->jA (bad B L') (fH L') L' w (if p.refs.any (Nat.beq id)then .e .any else p) v:=by
   intro p v k;cases hp:p.refs.any (Nat.beq id)with
   | true=>exact .any _
   | false=>exact move p v k hp
  cases p with
  | own i=>
   simp only[PV.rV];by_cases hi:i=id
   .subst hi
    rw[cO,aC rfl];exact hold _ k.2
   .rw [cP hi,aB ag]
    exact⟨⟨k.1,hi⟩,k.2⟩
  | _=>exact gen _ _ k
 .rw [q7]at h
  split at h
  .cases h
  .rename_i hi
   exact(r.hb i b' h).later ek rfl (fun x=>⟨fun q=>q.1,fun q=>⟨q,hi⟩⟩) (fun _=>rfl) fun _ _=>rfl
 .rw [q7]
  show L.live i/\i≠id↔_;by_cases hi:i=id
  .subst hi;simp
  .simp only[hi,ne_eq,dI,and_true,aL]
   exact r.hv i
 .rw [q7]at k
  split at k
  .cases k
  .exact r.hl h i b' k
def PS.xg(σ:PS)(t id:Nat)(b:Bx):PS:={ σ with t:=(t,.own id)::σ.t.filter (fun x=>!Nat.beq x.1 t),b:=(id,b)::σ.b }
theorem PS.le.Sz{σ:PS}(t id:Nat){nl:Bool}{T:TypeId}{sz:Nat}{el:Nat->Nat->E}(fQ:σ.bo id=none)(hg:σ.get t = .e (.v (.slice none 0 0)))(fE:σ.nl=true->nl=true):PS.le σ (σ.xg t id (.row nl T 0 sz el)):=fun w0 B a w L hB r=>by
 have qo:¬L.live id:=fun h=>by have:=(r.hv id).1 h;rw[fQ]at this;cases this
 let L':Lk:=⟨fun i=>L.live i\/i=id,L.own,fun i=>if i=id then .slice none 0 0 else L.val i,L.eK⟩
 have ek:oP L w L' w:=⟨aG _,fun x _ h=>h,fun _ _ _=>rfl⟩
 have q7:∀ i,(σ.xg t id (.row nl T 0 sz el)).bo i=if i=id then some (.row nl T 0 sz el)else σ.bo i:=by
  intro i;unfold PS.bo PS.xg;rw[pg];by_cases h:id=i
  .rw [aC h,aC h.symm]
  .rw [aB h,aB (fun e=>h e.symm)]
 have hv:a.tmps.getD t undef = .slice none 0 0:=by
  have:=r.ht t;rw[hg]at this;exact eo.gn this
 refine⟨L',r.hd,r.hs,fun s=>?_,fun i b' h=>?_,fun i=>?_,fun i x h=>.inl (r.hn i x h),r.hw,r.hi,r.he,fun h i b' k=>?_⟩
 .have YH:(σ.xg t id (.row nl T 0 sz el)).get s=if t=s then .own id else σ.get s:=by
   unfold PS.get PS.xg;simp only[pg];by_cases h:t=s
   .rw [aC h,aC h];rfl
   .rw [aB h,aB h,A7 _ _ _ h]
  rw[YH];by_cases h:t=s
  .subst h
   rw[aC rfl,hv];exact⟨.inr rfl,(aC rfl).symm⟩
  .rw [aB h]
   refine jA.move ek (r.ht s) fun i _ qp=>⟨.inl qp,aB (fun(q:i=id)=>qo (q▸qp)),fun _=>rfl⟩
 .rw [q7]at h
  split at h
  .rename_i hi
   subst hi;cases h;refine⟨fun _ _=>undef,.inl ⟨aC rfl,rfl⟩,fun x=>⟨fun q=>absurd (r.hn _ _ q) qo,fun q=>?_⟩,fun i j hi=>absurd hi (aV i)⟩;have e1:L'.val i = .slice none 0 0:=aC rfl;rw[e1]at q;cases q
  .rename_i hi
   exact(r.hb i b' h).later ek (aB hi) (fun _=>Iff.rfl) (fun _=>rfl) fun _ _=>rfl
 .rw [q7]
  show L.live i\/i=id↔_;by_cases hi:i=id
  .subst hi;simp
  .simp only[hi,or_false,aL]
   exact r.hv i
 .rw [q7]at k
  split at k
  .cases k;exact fE h
  .exact r.hl h i b' k
end Go.Proofs.YtdgnpeddgdclhaaGreatDoor.Pu
namespace Go.Proofs.YtdgnpeddgdclhaaGreatDoor.Fp
def iZ(x i:Nat)(b o:List Nat):Nat->List Nat×Nat
 | 0=>(o,0)
 | k+1=>
  let r:=iZ x i b o k
  let z:=x*b.getD k 0+r.1.getD (i+k) 0+r.2
  (r.1.set (i+k) (z%4294967296),z/4294967296)
def gH(a b:List Nat):Nat->List Nat
 | 0=>List.replicate (a.length+b.length) 0
 | i+1=>
  let r:=iZ (a.getD i 0) i b (gH a b i) b.length
  r.1.set (i+b.length) (r.2%4294967296)
theorem OX{x y:Nat}(hx:x<4294967296)(hy:y<4294967296):x*y<=18446744065119617025:=by
 have:=cz (show x<=4294967295 by omega) (show y<=4294967295 by omega);omega
theorem tV{L:List Nat}{k x:Nat}(hk:k<L.length):val (L.set k x)+4294967296^k*L.getD k 0=val L+4294967296^k*x:=by
 have:=JF (x:=x) hk;rwa[aF,aM hk]
theorem getD_set_ne{L:List Nat}{k j x:Nat}(h:k≠j):(L.set k x).getD j 0=L.getD j 0:=by
 simp only[aF,List.getElem?_set_ne h]
theorem F4{L:List Nat}{k x:Nat}(h:k<L.length):(L.set k x).getD k 0=x:=by
 simp[aF,h]
structure Sk(x i:Nat)(b o:List Nat)(k:Nat)(r:List Nat×Nat):Prop where
 ok:ej r.1
 len:r.1.length=o.length
 lt:r.2<4294967296
 eq:val r.1+4294967296^(i+k)*r.2=val o+4294967296^i*(x*val (b.take k))
 same:∀ j,i+k<=j->r.1.getD j 0=o.getD j 0
theorem Bd{x i:Nat}{b o:List Nat}(hx:x<4294967296)(hb:ej b)(ho:ej o)(hl:i+b.length<=o.length):∀ k,k<=b.length->Sk x i b o k (iZ x i b o k)
 | 0,_=>⟨ho,rfl,Nat.zero_lt_succ _,by simp[iZ,val],fun _ _=>rfl⟩
 | k+1,hk=>by
  obtain⟨h1,h2,h3,h4,h5⟩:=Bd hx hb ho hl k ae;have hy:=hb.getD k;have hw:=h1.getD (i+k);have hm:=OX hx hy;have hv:=pY b k;simp only[iZ];generalize iZ x i b o k=r at *
  generalize hz:x*b.getD k 0+r.1.getD (i+k) 0+r.2=z;have tc:=tV (L:=r.1) (k:=i+k) (x:=z%4294967296) ae;refine⟨h1.set _ (aS _ ag),by simpa using h2,by show z/4294967296<_;omega,?_,fun j hj=>?_⟩
  .have e1:z=z%4294967296+4294967296*(z/4294967296):=(cM z _).symm
   show val (r.1.set (i+k) (z%4294967296))+4294967296^(i+(k+1))*(z/4294967296)=_;rw[hv,aY x,aY (4294967296^i),<-ck (val o),<-h4];have e2:4294967296^(i+(k+1))*(z/4294967296)=4294967296^(i+k)*(4294967296*(z/4294967296)):=by rw[show i+(k+1)=(i+k)+1 by omega,aN,aP]
   have e3:4294967296^i*(x*(4294967296^k*b.getD k 0))=4294967296^(i+k)*(x*b.getD k 0):=by rw[aH];simp only[aP,cC]
   rw[e2,e3];have e4:4294967296^(i+k)*z=4294967296^(i+k)*(x*b.getD k 0)+4294967296^(i+k)*r.1.getD (i+k) 0+4294967296^(i+k)*r.2:=by rw[<-hz,aY,aY]
   have e5:4294967296^(i+k)*z=4294967296^(i+k)*(z%4294967296)+4294967296^(i+k)*(4294967296*(z/4294967296)):=by rw[<-aY,<-e1]
   omega
  .show (r.1.set (i+k) _).getD j 0=_
   rw[getD_set_ne ae,h5 j ae]
structure Sm(a b:List Nat)(i:Nat)(o:List Nat):Prop where
 ok:ej o
 len:o.length=a.length+b.length
 eq:val o=val (a.take i)*val b
 zero:∀ j,i+b.length<=j->o.getD j 0=0
theorem Be{a b:List Nat}(ha:ej a)(hb:ej b):∀ i,i<=a.length->Sm a b i (gH a b i)
 | 0,_=>⟨ej.yW _,by simp[gH],by simp[gH,vc,val],fun j _=>by
  by_cases h:j<a.length+b.length<;>simp[gH,aF,ag6,h]⟩
 | i+1,hi=>by
  obtain⟨h1,h2,h3,h4⟩:=Be ha hb i ae;obtain⟨q1,q2,q3,q4,q5⟩:=Bd (ha.getD i) hb h1 (i:=i) ae b.length (aG _);have hv:=pY a i;simp only[gH];generalize iZ (a.getD i 0) i b (gH a b i) b.length=r at *
  have tc:=tV (L:=r.1) (k:=i+b.length) (x:=r.2%4294967296) ae;rw[q5 _ (aG _),h4 _ (aG _),bQ,bd,bn q3,q4,agR,h3]at tc;refine⟨q1.set _ (aS _ ag), av,?_,fun j hj=>?_⟩
  .rw [bn q3,tc,hv,aO,aP]
  .rw [getD_set_ne ae,q5 _ ae,h4 _ ae]
theorem afH{a b:List Nat}(ha:ej a)(hb:ej b):val (gH a b a.length)=val a*val b:=by
 have:=(Be ha hb a.length (aG _)).eq;rwa[agR]at this
end Go.Proofs.YtdgnpeddgdclhaaGreatDoor.Fp
namespace Go.Proofs.YtdgnpeddgdclhaaGreatDoor
open Go.RowKit Fp Pu
abbrev gF(L:List Nat):Nat->Nat->E:=fun i _=>.v (.int .u32 (L.getD i 0:Int))
theorem qL(n:Nat):IntKind.u32.wrap (n:Int)=((n%4294967296:Nat):Int):=by rw[IntKind.wrap_u32];omega
theorem NK(n:Nat)(h:n<9223372036854775808):IntKind.i64.wrap (n:Int)=(n:Int):=by rw[IntKind.wrap_i64];omega
theorem y6(n:Nat):(n:Int)/2^32=((n/4294967296:Nat):Int):= ae 
theorem QZ(n k:Nat):(n:Int)/2^k=((n/2^k:Nat):Int):=by rw[Int.natCast_ediv,Int.natCast_pow];rfl
theorem wV{L:List Nat}{n:Nat}(h:n=L.length):E.le (.sl false n 1 (gF L)) (dO L):=by subst h;exact .refl _
theorem Jd{T n n':Nat}{L:List Nat}(hn:n=n')(h:∀ i,L.getD i 0=0):Bx.le (.row false T n 1 fun _ j=>[.v (.int .u32 0)].getD j .any) (.row false T n' 1 (gF L)):=
 .row hn fun i j _ hj=>by
  obtain rfl:j=0:= ae ;refine⟨.of_eq ?_,rfl⟩;show E.v (.int .u32 0)=E.v (.int .u32 (L.getD i 0:Int));rw[h i];rfl
theorem Jc{T n n' p:Nat}{L:List Nat}{z:Nat}(hn:n=n')(hp:p<L.length):Bx.le (.row false T n 1 fun i' j'=>if i'=p/\0<=j'/\j'<0+1 then[.v (.int .u32 (z:Int))].getD (j'-0) .any else(gF L) i' j') (.row false T n' 1 (gF (L.set p z))):=
 .row hn fun i j _ hj=>by
  obtain rfl:j=0:= ae ;refine⟨.of_eq ?_,rfl⟩;by_cases h:i=p
  .subst h
   rw[aC ⟨rfl, ae, ae⟩];show E.v (.int .u32 (z:Int))=E.v (.int .u32 (((L.set i z).getD i 0:Nat):Int));rw[Fp.F4 hp]
  .rw [aB (fun q=>h q.1)]
   show E.v (.int .u32 (L.getD i 0:Int))=E.v (.int .u32 (((L.set p z).getD i 0:Nat):Int));rw[Fp.getD_set_ne (fun q=>h q.symm)]
open Go.RowKit Fp
theorem Qu{k l:IntKind}{a b c d:Int}(h:a=b)(h':c=d):Ending.returned (.tuple #[.int k a,.int l c]) = .returned (.tuple #[.int k b,.int l d]):=by rw[h,h']
theorem zz(x y c:Nat)(w:World)(hx:x<4294967296)(hy:y<4294967296)(hc:c<=1):
 Calls Tryz.prog 287 #[.int .u32 x,.int .u32 y,.int .u32 c] w fun e w'=>e = .returned (.tuple #[.int .u32 (((x+y+c)%4294967296:Nat):Int),.int .u32 (((x+y+c)/4294967296:Nat):Int)])/\w=w':=by
 go_enter Tryz.func287,Tryz.ntmps287;go_wp2;go_ret2;refine⟨?_,rfl⟩;exact Qu ae ae 
theorem u32_or_nat(a b:Nat)(ha:a<4294967296)(hb:b<4294967296):bits .or .u32 (a:Int) (b:Int)=((a ||| b:Nat):Int):=by
 have h2:a ||| b<2^32:=Nat.or_lt_two_pow ha hb
 show IntKind.u32.wrap ((BitVec.ofInt 32 (a:Int) ||| BitVec.ofInt 32 (b:Int)).toNat:Int)=_;rw[BitVec.toNat_or,agS,agS];rw[show((a:Int)%((2^32:Nat):Int)).toNat=a by omega,show((b:Int)%((2^32:Nat):Int)).toNat=b by omega];rw[IntKind.wrap_u32];omega
theorem u32_and_nat(a b:Nat)(ha:a<4294967296)(hb:b<4294967296):bits .and .u32 (a:Int) (b:Int)=((a &&& b:Nat):Int):=by
 have h2:a &&& b<2^32:=agQ a hb;show IntKind.u32.wrap ((BitVec.ofInt 32 (a:Int) &&& BitVec.ofInt 32 (b:Int)).toNat:Int)=_;rw[BitVec.toNat_and,agS,agS];rw[show((a:Int)%((2^32:Nat):Int)).toNat=a by omega,show((b:Int)%((2^32:Nat):Int)).toNat=b by omega];rw[IntKind.wrap_u32];omega
theorem u32_xor_nat(a b:Nat)(ha:a<4294967296)(hb:b<4294967296):bits .xor .u32 (a:Int) (b:Int)=((a ^^^ b:Nat):Int):=by
 have h2:a ^^^ b<2^32:=ado ha hb;show IntKind.u32.wrap ((BitVec.ofInt 32 (a:Int) ^^^ BitVec.ofInt 32 (b:Int)).toNat:Int)=_;rw[BitVec.toNat_xor,agS,agS];rw[show((a:Int)%((2^32:Nat):Int)).toNat=a by omega,show((b:Int)%((2^32:Nat):Int)).toNat=b by omega];rw[IntKind.wrap_u32];omega
theorem Eu(n:Nat)(h:n<4294967296):n/2147483648=(n.testBit 31).toNat:=by
 rw[Nat.testBit_eq_decide_div_mod_eq,show(2:Nat)^31=2147483648 from rfl];have h2:n/2147483648<2:= ae ;generalize n/2147483648=q at *
 have:q=0\/q=1:= ae ;rcases this with rfl|rfl<;>rfl
theorem aeJ(x y c d:Nat)(hx:x<4294967296)(hy:y<4294967296)(hc:c<=1)(hd:d=(x+(4294967296-y)+(4294967296-c))%4294967296):
 (((4294967295 ^^^ x) &&& y) ||| ((4294967295 ^^^ (x ^^^ y)) &&& d))/2147483648=if x<y+c then 1 else 0:=by
 have q9:d<4294967296:= ae ;have h1:4294967295 ^^^ x<2^32:=ado ag hx;have h2:x ^^^ y<2^32:=ado hx hy;have h3:4294967295 ^^^ (x ^^^ y)<2^32:=ado ag h2;have h4:(4294967295 ^^^ x) &&& y<2^32:=agQ _ hy;have h5:(4294967295 ^^^ (x ^^^ y)) &&& d<2^32:=agQ _ q9;rw[Eu _ (Nat.or_lt_two_pow h4 h5)];have tx:=Eu x hx;have ty:=Eu y hy;have td:=Eu d q9;rw[Nat.testBit_or,Nat.testBit_and,Nat.testBit_and,Nat.testBit_xor,Nat.testBit_xor,Nat.testBit_xor,show(4294967295:Nat).testBit 31=true by decide];clear h1 h2 h3 h4 h5;generalize x.testBit 31=p at *
 generalize y.testBit 31=q at *
 generalize d.testBit 31=r at *
 cases p<;>cases q<;>cases r<;>simp at tx ty td ⊢ <;> omega
def vo(x y c:Nat):Nat:=if x<y+c then 1 else 0
def rO(x y c:Nat):Nat:=(x+(4294967296-y)+(4294967296-c))%4294967296
theorem zU(x y c:Nat)(hx:x<4294967296)(hy:y<4294967296)(hc:c<=1):rO x y c+y+c=x+4294967296*vo x y c/\vo x y c<=1/\rO x y c<4294967296:=by
 unfold rO vo;split<;>omega
theorem Rb(x y c:Nat)(w:World)(hx:x<4294967296)(hy:y<4294967296)(hc:c<=1):
 Calls Tryz.prog 288 #[.int .u32 x,.int .u32 y,.int .u32 c] w fun e w'=>e = .returned (.tuple #[.int .u32 (rO x y c:Nat),.int .u32 (vo x y c:Nat)])/\w=w':=by
 go_enter Tryz.func288,Tryz.ntmps288;go_wp2;go_ret2;refine⟨?_,rfl⟩;have hd:((x:Int)-(y:Int)-(c:Int))%4294967296=(rO x y c:Int):=by unfold rO;omega
 have hb:=aeJ x y c (rO x y c) hx hy hc rfl;have hl:=(zU x y c hx hy hc).2.2;have em:IntKind.u32.max=((4294967295:Nat):Int):=rfl;refine Qu hd ?_;rw[hd,em,u32_xor_nat _ _ ag hx,u32_xor_nat _ _ hx hy];have h1:4294967295 ^^^ x<2^32:=ado ag hx;have h2:x ^^^ y<2^32:=ado hx hy;have h3:4294967295 ^^^ (x ^^^ y)<2^32:=ado ag h2;rw[u32_xor_nat _ _ ag h2,u32_and_nat _ _ h1 hy,u32_and_nat _ _ h3 hl];have h4:(4294967295 ^^^ x) &&& y<2^32:=agQ _ hy;have h5:(4294967295 ^^^ (x ^^^ y)) &&& rO x y c<2^32:=agQ _ hl;rw[u32_or_nat _ _ h4 h5];unfold vo;rw[<-hb];omega
open Go.RowKit Fp
theorem J8{O:List Nat}{k c x y P Q P' Q':Nat}(ho:O[k]? = some 0)(h:val O+4294967296^k*c=P+Q)
 (hP:P'=P+4294967296^k*x) (hQ:Q'=Q+4294967296^k*y):
 val (O.set k ((x+y+c)%4294967296))+4294967296^(k+1)*((x+y+c)/4294967296)=P'+Q':=by
 have h1:=OY (a:=1) (b:=x+y) (c:=c) ho;rw[aK,bd]at h1;rw[h1,h,hP,hQ,aY];omega
theorem Rd{O:List Nat}{k c x y d c' P Q P' Q':Nat}(ho:O[k]? = some 0)(h:val O+Q=P+4294967296^k*c)
 (hP:P'=P+4294967296^k*x) (hQ:Q'=Q+4294967296^k*y) (hd:d+y+c=x+4294967296*c'):
 val (O.set k d)+Q'=P'+4294967296^(k+1)*c':=by
 obtain⟨hk,h0⟩:=bA.1 ho;have h1:=JF (x:=d) hk;rw[h0,bQ,bd]at h1;have e:=congrArg (4294967296^k * ·) hd;simp only[aY,<-aP]at e;rw[aN,h1,hP,hQ];omega
def pt(O:List Nat)(k:Nat):Prop:=∀ j,k<=j->j<O.length->O[j]? = some 0
theorem pt.at{O:List Nat}{k:Nat}(h:pt O k)(hk:k<O.length):O[k]? = some 0:=h k (aG _) hk
theorem pt.set{O:List Nat}{k:Nat}(h:pt O k)(v:Nat):pt (O.set k v) (k+1):=fun j h1 h2=>by
 rw[List.getElem?_set_ne ae];exact h j ae (by simpa using h2)
theorem pt.JL(n:Nat):pt (List.replicate n 0) 0:=fun j _ h=>by
 rw[ag6];rw[aC (by simpa using h)]
def EL(w:World)(v n:Nat)(e:Ending)(w':World):Prop:=∃ T,val T=v/\ej T/\T.length=n/\pr w T e w'
def JW(w:World)(v n:Nat)(e:Ending)(w':World):Prop:=∃ T,val T=v/\ej T/\T.length<=n/\pr w T e w'
theorem abf(A B:Option Addr)(c d:Nat)(L M:List Nat)(w:World)(hs:Sl w A c L)(hr:Sl w B d M)(h1:L.length<=3000)(_h2:M.length<=3000)(hc:M.length<=L.length):
 Calls Tryz.prog 260 #[.slice A L.length c,.slice B M.length d] w (EL w (val L+val M) (L.length+1)):=by
 obtain⟨l,hl⟩:∃ l,l=L.length:=⟨_,rfl⟩
 obtain⟨m,hm⟩:∃ m,m=M.length:=⟨_,rfl⟩
 rw[<-hl,<-hm]at hc;rw[<-hl]at h1;rw[<-hm]at _h2;have HL:=Lib.hid hl;have HM:=Lib.hid hm;rw[<-hl,<-hm];clear hl hm;have d0:decide ((l:Int)<(m:Int))=false:=aD ae;have d1:decide (l<m)=false:=aD ae;have kX:=A8 (l+1) ae;rw[show((l+1:Nat):Int)=(l:Int)+1 by omega]at kX;have rY:=Lib.hid (Rw.made w (l+1));go_enter Tryz.func260,Tryz.ntmps260;go_wp2;go_loopw [6,7,8,9,23] (fun cy _ _ _ i wr=>∃ (k q:Nat) (O:List Nat),k<=l/\i = .int .i64 k/\cy = .int .u32 q/\q<=1/\O.length=l+1/\ej O/\pt O k/\val O+4294967296^k*q=val (L.take k)+val (M.take k)/\Rw wr w.heap.size O/\Ext w wr) (fun _ _ _ _ i _=>l-(intOf i).toNat)
 case atStart=>
  exact⟨0,0,List.replicate (l+1) 0,bq _,rfl,rfl, ag, aj,ej.yW _,pt.JL _,by simp[vc],rY.out,Ext.alloc _ _⟩
 case round=>
  obtain⟨k,q,O,hk,rfl,rfl,hq,hO,iu,hz,gM,hR,hb⟩:=hrel;have HV:=Lib.hid gM;have HO:=Lib.hid hO;clear gM hO;have HZ:=Lib.hid hz;clear hz;by_cases ek:k<l
  .have o9:k<L.length:=by have:=HL.out;omega
   obtain⟨ab,ao,e1,_,c1⟩:=(hs.below hb).at_ o9;have iL:L[k]<4294967296:=hs.ok.get o9;have ho:=HZ.out.at (by have:=HO.out;omega)
   have c4:=hR.frozen k;have C6:=hR.cell ho;have HT:=Lib.hid (vd L k o9);have HY:=Lib.hid (pY M k);have lp:M.getD k 0<4294967296:=hr.ok.getD k;have HYc:=Lib.hid (fun(h:k<M.length)=>(hr.below hb).at_ h);have HYg:=Lib.hid (fun(h:k<M.length)=>uo h);have HYn:=Lib.hid (fun(h:¬k<M.length)=>xK h);have HX:=Lib.hid (rfl:L[k]=L[k]);obtain⟨a,ha⟩:∃ a,a=L[k]:=⟨_,rfl⟩
   rw[<-ha]at c1 iL HT;clear ha HX o9;have HS:=Lib.hid (J8 ho HV.out HT.out HY.out);have HN:=Lib.hid (fun v=>HZ.out.set v);have HOK:=Lib.hid (fun v=>iu.QV k v);have HR2:=Lib.hid (fun v:Nat=>hR.set k v);have HE2:=Lib.hid (fun v:Value=>hb.setCell (p:=⟨w.heap.size,k,none⟩) (aG _) v);clear ho hR hb iu;subst e1;by_cases NF:k<m
   .have rf:k<M.length:=by have:=HM.out;omega
    obtain⟨bb,bo,e2,_,c2⟩:=HYc.out rf;subst e2;rw[<-HYg.out rf]at c2;generalize M.getD k 0=b at *
    clear HYc HYg HYn rf;have HA:=Lib.hid (fun w=>zz a b q w iL lp hq);go_wp2_with fail;refine(HA.out _).mono ?_;rintro e w1 ⟨rfl,rfl⟩;go_wp2;go_roundw
    case rel=>
     exact⟨k+1,(a+b+q)/4294967296,O.set k ((a+b+q)%4294967296), ae,by go_num,rfl, ae,by rw[bZ];exact HO.out,HOK.out _,HN.out _,HS.out,HR2.out _,HE2.out _⟩
    case measure=>simp[intOf];omega
   .rw [HYn.out (by have:=HM.out;omega)]at HS
    clear HYc HYg HYn lp HY;have HA:=Lib.hid (fun w=>zz a 0 q w iL ag hq);go_wp2_with fail;refine(HA.out _).mono ?_;rintro e w1 ⟨rfl,rfl⟩;go_wp2;go_roundw
    case rel=>
     exact⟨k+1,(a+0+q)/4294967296,O.set k ((a+0+q)%4294967296), ae,by go_num,rfl, ae,by rw[bZ];exact HO.out,HOK.out _,HN.out _,HS.out,HR2.out _,HE2.out _⟩
    case measure=>simp[intOf];omega
  .obtain rfl:k=l:= ae 
   have ho:=HZ.out.at (by have:=HO.out;omega)
   have c4:=hR.frozen k;have C6:=hR.cell ho;have HF:=Lib.hid (show val (O.set k q)=val L+val M by
    have h:=KR (c:=q) ho;rw[bK,bn ae,bW ae,bQ,bd,HV.out,show L.take k=L from bU (by rw[HL.out];exact aG _),show M.take k=M from bU (by rw[<-HM.out];omega)]at h;omega)
   have HLn:=Lib.hid (show(O.set k q).length=k+1 by rw[bZ];exact HO.out);have HOK:Hid (ej (O.set k q)):=iu.set k ae;have HR2:=Lib.hid (hR.set k q);have HE2:=Lib.hid (fun v:Value=>hb.setCell (p:=⟨w.heap.size,k,none⟩) (aG _) v);clear ho hR hb iu;go_wp2;go_ret;have qv:=HR2.out.sl HOK.out (by rw[HLn.out];omega);rw[HLn.out]at qv;exact⟨_,HF.out,HOK.out,HLn.out,_,_,(by rw[HLn.out];rfl),qv,HE2.out _⟩
theorem abg(A B:Option Addr)(c d:Nat)(L M:List Nat)(w:World)(hs:Sl w A c L)(hr:Sl w B d M)(h1:L.length<=3000)(h2:M.length<=3000)(hc:L.length<M.length):
 Calls Tryz.prog 260 #[.slice A L.length c,.slice B M.length d] w (EL w (val L+val M) (M.length+1)):=by
 obtain⟨l,hl⟩:∃ l,l=L.length:=⟨_,rfl⟩
 obtain⟨m,hm⟩:∃ m,m=M.length:=⟨_,rfl⟩
 rw[<-hl,<-hm]at hc;rw[<-hl]at h1;rw[<-hm]at h2;have HL:=Lib.hid hl;have HM:=Lib.hid hm;rw[<-hl,<-hm];clear hl hm;have d0:decide ((l:Int)<(m:Int))=true:=aE ae;have d1:decide (l<m)=true:=aE ae;have kX:=A8 (m+1) ae;rw[show((m+1:Nat):Int)=(m:Int)+1 by omega]at kX;have rY:=Lib.hid (Rw.made w (m+1));go_enter Tryz.func260,Tryz.ntmps260;go_wp2;go_loopw [6,7,8,9,23] (fun cy _ _ _ i wr=>∃ (k q:Nat) (O:List Nat),k<=m/\i = .int .i64 k/\cy = .int .u32 q/\q<=1/\O.length=m+1/\ej O/\pt O k/\val O+4294967296^k*q=val (M.take k)+val (L.take k)/\Rw wr w.heap.size O/\Ext w wr) (fun _ _ _ _ i _=>m-(intOf i).toNat)
 case atStart=>
  exact⟨0,0,List.replicate (m+1) 0,bq _,rfl,rfl, ag, aj,ej.yW _,pt.JL _,by simp[vc],rY.out,Ext.alloc _ _⟩
 case round=>
  obtain⟨k,q,O,hk,rfl,rfl,hq,hO,iu,hz,gM,hR,hb⟩:=hrel;have HV:=Lib.hid gM;have HO:=Lib.hid hO;clear gM hO;have HZ:=Lib.hid hz;clear hz;by_cases ek:k<m
  .have o9:k<M.length:=by have:=HM.out;omega
   obtain⟨ab,ao,e1,_,c1⟩:=(hr.below hb).at_ o9;have iL:M[k]<4294967296:=hr.ok.get o9;have ho:=HZ.out.at (by have:=HO.out;omega)
   have c4:=hR.frozen k;have C6:=hR.cell ho;have HT:=Lib.hid (vd M k o9);have HY:=Lib.hid (pY L k);have lp:L.getD k 0<4294967296:=hs.ok.getD k;have HYc:=Lib.hid (fun(h:k<L.length)=>(hs.below hb).at_ h);have HYg:=Lib.hid (fun(h:k<L.length)=>uo h);have HYn:=Lib.hid (fun(h:¬k<L.length)=>xK h);have HX:=Lib.hid (rfl:M[k]=M[k]);obtain⟨a,ha⟩:∃ a,a=M[k]:=⟨_,rfl⟩
   rw[<-ha]at c1 iL HT;clear ha HX o9;have HS:=Lib.hid (J8 ho HV.out HT.out HY.out);have HN:=Lib.hid (fun v=>HZ.out.set v);have HOK:=Lib.hid (fun v=>iu.QV k v);have HR2:=Lib.hid (fun v:Nat=>hR.set k v);have HE2:=Lib.hid (fun v:Value=>hb.setCell (p:=⟨w.heap.size,k,none⟩) (aG _) v);clear ho hR hb iu;subst e1;by_cases NF:k<l
   .have rf:k<L.length:=by have:=HL.out;omega
    obtain⟨bb,bo,e2,_,c2⟩:=HYc.out rf;subst e2;rw[<-HYg.out rf]at c2;generalize L.getD k 0=b at *
    clear HYc HYg HYn rf;have HA:=Lib.hid (fun w=>zz a b q w iL lp hq);go_wp2_with fail;refine(HA.out _).mono ?_;rintro e w1 ⟨rfl,rfl⟩;go_wp2;go_roundw
    case rel=>
     exact⟨k+1,(a+b+q)/4294967296,O.set k ((a+b+q)%4294967296), ae,by go_num,rfl, ae,by rw[bZ];exact HO.out,HOK.out _,HN.out _,HS.out,HR2.out _,HE2.out _⟩
    case measure=>simp[intOf];omega
   .rw [HYn.out (by have:=HL.out;omega)]at HS
    clear HYc HYg HYn lp HY;have HA:=Lib.hid (fun w=>zz a 0 q w iL ag hq);go_wp2_with fail;refine(HA.out _).mono ?_;rintro e w1 ⟨rfl,rfl⟩;go_wp2;go_roundw
    case rel=>
     exact⟨k+1,(a+0+q)/4294967296,O.set k ((a+0+q)%4294967296), ae,by go_num,rfl, ae,by rw[bZ];exact HO.out,HOK.out _,HN.out _,HS.out,HR2.out _,HE2.out _⟩
    case measure=>simp[intOf];omega
  .obtain rfl:k=m:= ae 
   have ho:=HZ.out.at (by have:=HO.out;omega)
   have c4:=hR.frozen k;have C6:=hR.cell ho;have HF:=Lib.hid (show val (O.set k q)=val L+val M by
    have h:=KR (c:=q) ho;rw[bK,bn ae,bW ae,bQ,bd,HV.out,show M.take k=M from bU (by rw[HM.out];exact aG _),show L.take k=L from bU (by rw[<-HL.out];omega)]at h;omega)
   have HLn:=Lib.hid (show(O.set k q).length=k+1 by rw[bZ];exact HO.out);have HOK:Hid (ej (O.set k q)):=iu.set k ae;have HR2:=Lib.hid (hR.set k q);have HE2:=Lib.hid (fun v:Value=>hb.setCell (p:=⟨w.heap.size,k,none⟩) (aG _) v);clear ho hR hb iu;go_wp2;go_ret;have qv:=HR2.out.sl HOK.out (by rw[HLn.out];omega);rw[HLn.out]at qv;exact⟨_,HF.out,HOK.out,HLn.out,_,_,(by rw[HLn.out];rfl),qv,HE2.out _⟩
theorem Pe(A B:Option Addr)(c d:Nat)(L M:List Nat)(w:World)(hs:Sl w A c L)(hr:Sl w B d M)(h1:L.length<=3000)(h2:M.length<=3000):
 Calls Tryz.prog 260 #[.slice A L.length c,.slice B M.length d] w (EL w (val L+val M) (max L.length M.length+1)):=by
 by_cases hc:M.length<=L.length
 .rw [Nat.max_eq_left hc];exact abf A B c d L M w hs hr h1 h2 hc
 .rw [Nat.max_eq_right ae];exact abg A B c d L M w hs hr h1 h2 ae 
theorem abe(A B:Option Addr)(c d:Nat)(L M:List Nat)(w:World)(hs:Sl w A c L)(hr:Sl w B d M)(h1:L.length<=3000)(h2:M.length<=3000):
 Calls Tryz.prog 260 #[.slice A L.length c,.slice B M.length d] w (JW w (val L+val M) (max L.length M.length+1)):=
 (Pe A B c d L M w hs hr h1 h2).mono fun _ _ ⟨T,a,b,c,d⟩=>⟨T,a,b,Nat.le_of_eq c,d⟩
theorem abh(A B:Option Addr)(c d:Nat)(L M:List Nat)(w:World)(pI:Sl w A c L)(rm:Sl w B d M)(h1:L.length<=3000)(_h2:M.length<=3000)(hle:val M<=val L):
 Calls Tryz.prog 261 #[.slice A L.length c,.slice B M.length d] w (JW w (val L-val M) L.length):=by
 have Gg:=Lib.hid (fun w (h:Sl w A c L)=>pO A c L w h);have Gh:=Lib.hid (fun w (h:Sl w B d M)=>pO B d M w h);have hs:=pI.trim;have hr:=rm.trim;have AN:=kS L;have Ny:=kS M;have Au:=ky L;have jC:=ky M;have xZ:(dZ M).length<=(dZ L).length:=by
  apply bh;intro h;have:=Ez hs.ok (tO M) ae;omega
 unfold ig at Au jC;rw[<-AN,<-Ny]at hle ⊢;clear AN Ny;obtain⟨n1,nx⟩:∃ n,n=L.length:=⟨_,rfl⟩
 obtain⟨n2,iq⟩:∃ n,n=M.length:=⟨_,rfl⟩
 rw[<-nx]at h1 Au Gg ⊢;rw[<-iq]at _h2 jC Gh ⊢;have HTL:=Lib.hid (Gg.out w pI);have HTM:=Lib.hid (Gh.out w rm);clear Gg Gh pI rm nx iq;generalize dZ L=L at *
 generalize dZ M=M at *
 obtain⟨l,hl⟩:∃ l,l=L.length:=⟨_,rfl⟩
 obtain⟨m,hm⟩:∃ m,m=M.length:=⟨_,rfl⟩
 rw[<-hl]at Au HTL xZ;rw[<-hm]at jC HTM xZ;have HL:=Lib.hid hl;have HM:=Lib.hid hm;have HLE:=Lib.hid hle;clear hl hm hle;have kX:=A8 l ae;have rY:=Lib.hid (Rw.made w l);go_enter Tryz.func261,Tryz.ntmps261;go_wp2_with fail;refine HTL.out.mono ?_;rintro e w1 ⟨rfl,rfl⟩;go_wp2_with fail;refine HTM.out.mono ?_;rintro e w1 ⟨rfl,rfl⟩;go_wp2;go_loopw [6,7,8,9,19] (fun cy _ _ _ i wr=>∃ (k q:Nat) (O:List Nat),k<=l/\i = .int .i64 k/\cy = .int .u32 q/\q<=1/\O.length=l/\ej O/\pt O k/\val O+val (M.take k)=val (L.take k)+4294967296^k*q/\Rw wr w.heap.size O/\Ext w wr) (fun _ _ _ _ i _=>l-(intOf i).toNat)
 case atStart=>
  exact⟨0,0,List.replicate l 0,bq _,rfl,rfl, ag, aj,ej.yW _,pt.JL _,by simp[vc],rY.out,Ext.alloc _ _⟩
 case round=>
  obtain⟨k,q,O,hk,rfl,rfl,hq,hO,iu,hz,gM,hR,hb⟩:=hrel;have HV:=Lib.hid gM;have HO:=Lib.hid hO;clear gM hO;have HZ:=Lib.hid hz;clear hz;by_cases ek:k<l
  .have o9:k<L.length:=by have:=HL.out;omega
   obtain⟨ab,ao,e1,_,c1⟩:=(hs.below hb).at_ o9;have iL:L[k]<4294967296:=hs.ok.get o9;have ho:=HZ.out.at (by have:=HO.out;omega)
   have c4:=hR.frozen k;have C6:=hR.cell ho;have HT:=Lib.hid (vd L k o9);have HY:=Lib.hid (pY M k);have lp:M.getD k 0<4294967296:=hr.ok.getD k;have HYc:=Lib.hid (fun(h:k<M.length)=>(hr.below hb).at_ h);have HYg:=Lib.hid (fun(h:k<M.length)=>uo h);have HYn:=Lib.hid (fun(h:¬k<M.length)=>xK h);obtain⟨a,ha⟩:∃ a,a=L[k]:=⟨_,rfl⟩
   rw[<-ha]at c1 iL HT;clear ha o9;have HN:=Lib.hid (fun v=>HZ.out.set v);have HOK:=Lib.hid (fun(v:Nat) (h:v<4294967296)=>iu.set k h);have HR2:=Lib.hid (fun v:Nat=>hR.set k v);have HE2:=Lib.hid (fun v:Value=>hb.setCell (p:=⟨w.heap.size,k,none⟩) (aG _) v);have HO0:=Lib.hid ho;clear ho hR hb iu;subst e1;by_cases NF:k<m
   .have rf:k<M.length:=by have:=HM.out;omega
    obtain⟨bb,bo,e2,_,c2⟩:=HYc.out rf;subst e2;rw[<-HYg.out rf]at c2;generalize M.getD k 0=b at *
    clear HYc HYg HYn rf;have HS:=Lib.hid (Rd HO0.out HV.out HT.out HY.out (zU a b q iL lp hq).1);have HD:=Lib.hid (zU a b q iL lp hq).2;have HA:=Lib.hid (fun w=>Rb a b q w iL lp hq);generalize rO a b q=dd at *
    generalize vo a b q=bb' at *
    go_wp2_with fail;refine(HA.out _).mono ?_;rintro e w1 ⟨rfl,rfl⟩;go_wp2;go_roundw
    case rel=>
     exact⟨k+1,bb',O.set k dd, ae,by go_num,rfl,HD.out.1,by rw[bZ];exact HO.out,HOK.out _ HD.out.2,HN.out _,HS.out,HR2.out _,HE2.out _⟩
    case measure=>simp[intOf];omega
   .rw [HYn.out (by have:=HM.out;omega)]at HY
    clear HYc HYg HYn lp;have HS:=Lib.hid (Rd HO0.out HV.out HT.out HY.out (zU a 0 q iL ag hq).1);have HD:=Lib.hid (zU a 0 q iL ag hq).2;have HA:=Lib.hid (fun w=>Rb a 0 q w iL ag hq);generalize rO a 0 q=dd at *
    generalize vo a 0 q=bb' at *
    go_wp2_with fail;refine(HA.out _).mono ?_;rintro e w1 ⟨rfl,rfl⟩;go_wp2;go_roundw
    case rel=>
     exact⟨k+1,bb',O.set k dd, ae,by go_num,rfl,HD.out.1,by rw[bZ];exact HO.out,HOK.out _ HD.out.2,HN.out _,HS.out,HR2.out _,HE2.out _⟩
    case measure=>simp[intOf];omega
  .obtain rfl:k=l:= ae 
   have HF:=Lib.hid (show val O=val L-val M by
    have h:=HV.out;rw[show L.take k=L from bU (by rw[HL.out];exact aG _),show M.take k=M from bU (by rw[<-HM.out];exact xZ)]at h;exact(Rc iu HO.out h HLE.out).2)
   go_wp2;go_ret;have qv:=hR.sl iu (by rw[HO.out];omega);exact⟨_,HF.out,iu,by rw[HO.out];exact Au,_,_,(by rw[HO.out];rfl),qv,hb⟩
open Go.RowKit Fp
theorem RC{T:List Nat}{v:Nat}(h:ej T)(hv:val T=v):dZ T=dN v:=by rw[mu h,hv]
theorem O3(A B:Option Addr)(c d:Nat)(L M:List Nat)(w:World)(hs:Sl w A c L)(hr:Sl w B d M)(h1:L.length<=256)(h2:M.length<=256)(hf:(dN (val L+val M)).length<=256):
 Calls Tryz.prog 218 #[.slice A L.length c,.slice B M.length d] w (w8 w (dN (val L+val M)) 0):=by
 have H1:=Lib.hid (fun w (h:Sl w A c L) (k:Sl w B d M)=>abe A B c d L M w h k ae ae);generalize val L+val M=v at *
 go_enter Tryz.func218,Tryz.ntmps218;go_wp2_with fail;refine(Oq _ A B _ c _ d _ false (JY _ _ _ _ _ _ _) (JZ _ _ _ _ _ _ _) av).mono ?_;rintro e w' ⟨rfl,rfl⟩;go_wp2_with fail;refine(H1.out _ (hs.alloc _) (hr.alloc _)).mono ?_;rintro e w' ⟨T,hv,hk,hl,A',c',rfl,iK,hb⟩;have ht:=Lib.hid (RC hk hv);go_wp2_with fail;refine(Bh A' c' T _ iK (by rw[ht.out];exact hf)).mono ?_;rintro e w'' ⟨A'',c'',rfl,mP,jm⟩;rw[ht.out]at mP ⊢;go_wp2;go_ret2;exact⟨A'',c'',rfl,mP,(Ext.alloc _ _).trans (hb.trans jm)⟩
theorem Ip(A B:Option Addr)(c d:Nat)(L M:List Nat)(w:World)(hs:Sl w A c L)(hr:Sl w B d M)(h1:L.length<=256)(h2:M.length<=256)(hle:val M<=val L):
 Calls Tryz.prog 219 #[.slice A L.length c,.slice B M.length d] w (w8 w (dN (val L-val M)) 0):=by
 have H1:=Lib.hid (fun w (h:Sl w A c L) (k:Sl w B d M)=>abh A B c d L M w h k ae ae hle);have HC:=Lib.hid (fun w (h:Sl w A c L) (k:Sl w B d M)=>Bg A B c d L M w h k ae ae);have hc:decide (fN (val L) (val M)<0)=false:=by
  apply aD;unfold fN;rw[aB ae];split<;>decide
 have hf:(dN (val L-val M)).length<=256:=aI (il (cI _ _)) (aaE hs.ok h1);generalize val L-val M=v at *
 generalize fN (val L) (val M)=q at *
 clear hle;go_enter Tryz.func219,Tryz.ntmps219;go_wp2_with fail;refine(Oq _ A B _ c _ d _ false (JY _ _ _ _ _ _ _) (JZ _ _ _ _ _ _ _) av).mono ?_;rintro e w' ⟨rfl,rfl⟩;go_wp2_with fail;refine(HC.out _ (hs.alloc _) (hr.alloc _)).mono ?_;rintro e w1 ⟨rfl,eB⟩;go_wp2_with fail;refine(H1.out _ ((hs.alloc _).below eB) ((hr.alloc _).below eB)).mono ?_;rintro e w' ⟨T,hv,hk,hl,A',c',rfl,iK,hb⟩;have ht:=Lib.hid (RC hk hv);go_wp2_with fail;refine(Bh A' c' T _ iK (by rw[ht.out];exact hf)).mono ?_;rintro e w'' ⟨A'',c'',rfl,mP,jm⟩;rw[ht.out]at mP ⊢;go_wp2;go_ret2;exact⟨A'',c'',rfl,mP,(Ext.alloc _ _).trans (eB.trans (hb.trans jm))⟩
end Go.Proofs.YtdgnpeddgdclhaaGreatDoor
namespace Go.Proofs.YtdgnpeddgdclhaaGreatDoor.Fp
def fS(d:Dy):Dy:=if iM d then d else eW
def iJ(d:Dy):Int:=if iM d then 0 else 9
theorem vu{d:Dy}(h:iM d):fS d=d:=aC h
theorem Cw{d:Dy}(h:iM d):iJ d=0:=aC h
theorem Fq{d:Dy}(h:¬iM d):fS d=eW:=aB h
theorem Cv{d:Dy}(h:¬iM d):iJ d=9:=aB h
theorem KX{d:Dy}(h:d.Canon):(fS d).Valid:=by
 by_cases hr:iM d
 .rw [vu hr];exact⟨h,hr⟩
 .rw [Fq hr];exact oO
theorem Ju{a b:Dy}(ha:a.m≠0)(hb:b.m≠0):ep a b=ep b a:=by
 unfold ep;rw[aB ha,aB hb,aB hb,aB ha,Int.min_comm,Int.add_comm]
theorem Rj{a b:Dy}(ha:a.Valid)(hb:b.Valid)(a0:a.m≠0)(b0:b.m≠0){k:Int}(hk:min a.e b.e=k)(h1:4097<a.dX-k)(h2:1<a.dX-b.dX):¬iM (ep a b):=by
 have M4:k<=a.e:= ae ;have M5:k<=b.e:= ae ;have m1:=Cp a0 M4;have m2:=Cp b0 M5;have ta:a.dX=dU a.m+a.e:=by unfold Dy.dX;rw[aB a0]
 have tb:b.dX=dU b.m+b.e:=by unfold Dy.dX;rw[aB b0]
 have ba:dU a.m<=4096:=by rcases ha.range with h|⟨h,_⟩;exact absurd h a0;exact h
 have fK:a.e≠k:= ae ;have C3:b.e=k:= ae ;have oa:a.fm k%2=0:=by
  unfold Dy.fm;obtain⟨j,hj⟩:∃ j,(a.e-k).toNat=j+1:=⟨(a.e-k).toNat-1, ae⟩
  rw[hj,aN,<-aP,agZ]
 have ob:b.fm k%2=1:=by
  unfold Dy.fm;rw[C3,show(k-k).toNat=0 by omega,bG,bD];rcases hb.canon with⟨h,_,_⟩|h
  .exact absurd h b0
  .exact h
 have pa:=sn a0 k;obtain⟨p,hp⟩:∃ p,dU (a.fm k)=p+2:=⟨dU (a.fm k)-2, ae⟩
 have l1:=oh (show a.fm k≠0 by omega);have l2:=mE (b.fm k);rw[hp,show p+2-1=p+1 by omega,aN]at l1;have l3:2^dU (b.fm k)<=2^p:=aR ag ae;have hz:(a.num k+b.num k).natAbs%2=1/\2^p<=(a.num k+b.num k).natAbs:=by
  unfold Dy.num;generalize a.fm k=x at *
  generalize b.fm k=y at *
  generalize 2^p=P at *
  split<;>split<;>omega
 unfold ep;rw[aB a0,aB b0,hk];unfold gp;generalize (a.num k+b.num k).natAbs=z at *
 generalize decide (a.num k+b.num k<0)=s at *
 have hc:canon s z k=⟨s,z,k⟩:=Dy.Canon.xn (d:=⟨s,z,k⟩) (.inr hz.1);rw[hc];have hb:=pM.2 hz.2;rintro(h|⟨h,_⟩)
 .simp only at h;omega
 .simp only at h;omega
theorem aeP{a b:Dy}(ha:a.Valid)(hb:b.Valid)(a0:a.m≠0)(b0:b.m≠0){k:Int}(hk:min a.e b.e=k)(h1:4097<max a.dX b.dX-k)(h2:1<a.dX-b.dX\/1<b.dX-a.dX):¬iM (ep a b):=by
 rcases h2 with h2|h2
 .exact Rj ha hb a0 b0 hk ae h2
 .rw [Ju a0 b0]
  exact Rj (k:=k) hb ha b0 a0 (by rw[Int.min_comm];exact hk) ae h2
theorem aeR{a b:Dy}(ha:a.Valid)(hb:b.Valid)(a0:a.m≠0)(b0:b.m≠0){k:Int}(hk:min a.e b.e=k)(h:¬(4097<max a.dX b.dX-k/\(1<a.dX-b.dX\/1<b.dX-a.dX))):
 dU (a.m*2^(a.e-k).toNat)<=4097/\dU (b.m*2^(b.e-k).toNat)<=4097:=by
 have ta:a.dX=dU a.m+a.e:=by unfold Dy.dX;rw[aB a0]
 have tb:b.dX=dU b.m+b.e:=by unfold Dy.dX;rw[aB b0]
 have ba:dU a.m<=4096:=by rcases ha.range with h|⟨h,_⟩;exact absurd h a0;exact h
 have bb:dU b.m<=4096:=by rcases hb.range with h|⟨h,_⟩;exact absurd h b0;exact h
 rw[mg a0,mg b0];omega
theorem TC{x y n:Nat}(hx:dU x<=n)(hy:dU y<=n):dU (x+y)<=n+1:=by
 rw[gS]at *
 rw[aN];omega
def ey(m:Nat)(e:Int)(p:Nat):Nat:=(max (max ((dU m:Int)-p) (-16384-e)) 0).toNat
def fT(m:Nat)(e:Int)(more:Bool)(p:Nat)(out:Bool):Nat:=
 m/2^ey m e p+if out=true/\(more=true\/m%2^ey m e p≠0)then 1 else 0
def gX(m:Nat)(e:Int)(more:Bool)(p:Nat)(out:Bool):Bool:=
 decide (fT m e more p out≠0)&&decide (16384<(dU (fT m e more p out):Int)+e+ey m e p)
def fi(neg:Bool)(m:Nat)(e:Int)(more:Bool)(p:Nat)(up:Bool):Dy:=
 if gX m e more p (neg != up)=true then(if(neg != up)=true then eW else canon neg (2^p-1) (16384-p))else canon neg (fT m e more p (neg != up)) (e+ey m e p)
def eU(neg:Bool)(m:Nat)(e:Int)(more:Bool)(p:Nat)(up:Bool):Int:=
 if(gX m e more p (neg != up)&&(neg != up))=true then 9 else 0
theorem Vx{N d k:Nat}:(N/2^d%2^k≠0\/N%2^d≠0)↔N%2^(d+k)≠0:=by
 have e1:N%2^(d+k)=N%2^d+2^d*(N/2^d%2^k):=by rw[aH,Nat.mod_mul]
 have hp:0<2^d:=aJ ag;rw[e1];constructor
 .rintro (h|h)
  .have:=Nat.mul_pos hp (cY h)
   omega
  .omega
 .intro h
  by_cases h1:N%2^d=0
  .left
   intro h2;rw[h1,h2,bQ]at h;exact h rfl
  .exact .inr h1
theorem Vm{N:Nat}{E:Int}{more:Bool}{d p:Nat}(hb:p<dU (N/2^d)):
 ey (N/2^d) (E+d) p+d=ey N E p /\
 ∀ out,fT (N/2^d) (E+d) (more||decide (N%2^d≠0)) p out=fT N E more p out:=by
 have hN:d<dU N:=by
  apply bh;intro h;have h1:N<2^d:=gS.1 ae;rw[bW h1]at hb;simp[dU]at hb
 have Gs:dU (N/2^d)+d=dU N:=by
  have h0:N/2^d≠0:=by intro h;rw[h]at hb;simp[dU]at hb
  have h1:=oh h0;have h2:=mE (N/2^d);obtain⟨j,hj⟩:∃ j,dU (N/2^d)=j+1:=⟨dU (N/2^d)-1, ae⟩
  rw[hj]at h1 h2 ⊢;rw[dj,ct (aJ ag),<-aH]at h1;rw[bC (aJ ag),<-aH]at h2;have:=qQ (k:=j+d) h1 (by rw[show j+d+1=j+1+d by omega];exact h2);omega
 have hk:ey (N/2^d) (E+d) p+d=ey N E p:=by
  unfold ey;omega
 refine⟨hk,fun out=>?_⟩;unfold fT;rw[<-hk];generalize ey (N/2^d) (E+d) p=k;have Gv:=@Vx N d k;rw[show k+d=d+k by omega,bY,<-aH];congr 1;have:((more||decide (N%2^d≠0))=true\/N/2^d%2^k≠0)↔(more=true\/N%2^(d+k)≠0):=by
  rw[<-Gv];simp only[ag5,bF];constructor
  .rintro ((h|h)|h)
   .exact .inl h
   .exact .inr (.inr h)
   .exact .inr (.inl h)
  .rintro (h|h|h)
   .exact .inl (.inl h)
   .exact .inr h
   .exact .inl (.inr h)
 by_cases ho:out=true
 .simp only[ho,true_and,this]
 .rw [aB (fun h=>ho h.1),aB (fun h=>ho h.1)]
theorem Cy{N:Nat}{E:Int}{more:Bool}{d p:Nat}(neg up:Bool)(hb:p<dU (N/2^d)):
 fi neg (N/2^d) (E+d) (more||decide (N%2^d≠0)) p up=fi neg N E more p up /\
 eU neg (N/2^d) (E+d) (more||decide (N%2^d≠0)) p up=eU neg N E more p up:=by
 obtain⟨hk,hq⟩:=Vm (more:=more) (E:=E) hb;have hq:=hq (neg != up);have e1:E+(d:Int)+(ey (N/2^d) (E+d) p:Int)=E+(ey N E p:Int):= ae ;have e2:(dU (fT N E more p (neg != up)):Int)+(E+(d:Int))+(ey (N/2^d) (E+d) p:Int)=(dU (fT N E more p (neg != up)):Int)+E+(ey N E p:Int):= ae ;have ho:gX (N/2^d) (E+d) (more||decide (N%2^d≠0)) p (neg != up)=gX N E more p (neg != up):=by
  unfold gX;rw[hq,e2]
 unfold fi eU;rw[hq,ho,e1];exact⟨rfl,rfl⟩
theorem Fm(s:Bool)(m:Nat)(e:Int)(j:Nat):canon s (m*2^j) (e-j)=canon s m e:=by
 by_cases h0:m=0
 .subst h0;rw[bS];rfl
 .have h1:m*2^j≠0:=cN h0 (dm (aJ ag))
  obtain⟨q,hq,he⟩:=vv h0;have hc:fk (m*2^j)=fk m+j:=by
   conv=>lhs;rw[he,aP,<-aH]
   exact sN hq _
  unfold canon;rw[aB h1,aB h0,hc,aH,aQ (2^fk m),<-bY,cU _ (aJ ag)];rw[show e-(j:Int)+((fk m+j:Nat):Int)=e+(fk m:Int)by omega]
theorem Vl(neg up:Bool)(N:Nat)(E:Int)(j p:Nat)(h0:N≠0):
 fi neg (N*2^j) (E-j) false p up=fi neg N E false p up/\eU neg (N*2^j) (E-j) false p up=eU neg N E false p up:=by
 have Gs:=mg h0 j;by_cases hk:ey N E p=0
 .
  have nU:ey (N*2^j) (E-j) p<=j:=by unfold ey at hk ⊢;rw[Gs];omega
  obtain⟨i,hi⟩:∃ i,j=i+ey (N*2^j) (E-j) p:=⟨j-ey (N*2^j) (E-j) p, ae⟩
  generalize hK:ey (N*2^j) (E-j) p=k at *
  have hdiv:N*2^j/2^k=N*2^i:=by
   rw[hi,aH,<-aP,cU _ (aJ ag)]
  have GO:N*2^j%2^k=0:=by
   rw[hi,aH,<-aP];exact agZ _ _
  have hq:∀ out,fT (N*2^j) (E-j) false p out=N*2^i:=fun out=>by
   unfold fT;rw[hK,hdiv,GO];simp
  have qt:∀ out,fT N E false p out=N:=fun out=>by
   unfold fT;rw[hk];simp[cF]
  have fK:N*2^i≠0:=cN h0 (dm (aJ ag));have ho:∀ out,gX (N*2^j) (E-j) false p out=gX N E false p out:=fun out=>by
   unfold gX;rw[hq,qt,hK,hk,mg h0 i];simp only[ne_eq,fK,h0,dI,decide_true,agT];rw[decide_eq_decide];omega
  unfold fi eU;rw[ho,hq,qt,hK,hk];rw[show E-(j:Int)+(k:Int)=E+((0:Nat):Int)-(i:Int)by omega,Fm];exact⟨rfl,rfl⟩
 .have nU:ey (N*2^j) (E-j) p=ey N E p+j:=by unfold ey at hk ⊢;rw[Gs];omega
  have hq:∀ out,fT (N*2^j) (E-j) false p out=fT N E false p out:=fun out=>by
   unfold fT;rw[nU,aH,aQ (2^ey N E p),<-bY,cU _ (aJ ag),aQ N,Nat.mul_mod_mul_left];have:(2^j*(N%2^ey N E p)≠0)↔(N%2^ey N E p≠0):=by
    rw[ne_eq,ne_eq,Nat.mul_eq_zero];have:=aJ (n:=j) ( ag :0<2);omega
   simp only[this]
  have ho:∀ out,gX (N*2^j) (E-j) false p out=gX N E false p out:=fun out=>by
   unfold gX;rw[hq,nU];congr 2;rw[eq_iff_iff];omega
  unfold fi eU;rw[ho,hq,nU];rw[show E-(j:Int)+((ey N E p+j:Nat):Int)=E+(ey N E p:Int)by omega];exact⟨rfl,rfl⟩
def ff(d:Dy)(p:Nat)(up:Bool):Dy:=fi d.neg d.m d.e false p up
def fg(d:Dy)(p:Nat)(up:Bool):Int:=eU d.neg d.m d.e false p up
theorem Qv(s up:Bool)(m:Nat)(e:Int)(p:Nat)(h0:m≠0):
 ff (canon s m e) p up=fi s m e false p up/\fg (canon s m e) p up=eU s m e false p up:=by
 have hm:=zW h0;have hq:m/2^fk m≠0:=by have:=yO h0;omega
 have h:=Vl s up (m/2^fk m) (e+fk m) (fk m) p hq;rw[hm,show e+(fk m:Int)-(fk m:Int)=e by omega]at h;unfold ff fg canon;rw[aB h0];exact⟨h.1.symm,h.2.symm⟩
theorem vq{s:Bool}{m:Nat}{e:Int}(h0:m≠0):(dU (canon s m e).m:Int)+(canon s m e).e=dU m+e/\e<=(canon s m e).e/\(canon s m e).m≠0/\dU (canon s m e).m<=dU m:=by
 have hm:=zW h0;have hq:m/2^fk m≠0:=by have:=yO h0;omega
 have h:=mg hq (fk m);rw[hm]at h;unfold canon;rw[aB h0];simp only;exact⟨ ae, ae,hq, ae⟩
theorem Lr(m:Nat)(e:Int)(p:Nat):m/2^ey m e p<2^p:=by
 rw[bC (aJ ag),<-aH];refine gS.1 ?_;unfold ey;omega
theorem UW{s:Bool}{q p:Nat}{e:Int}(h:q<=2^p)(hp:1<=p):dU (canon s q e).m<=p:=by
 by_cases h0:q=0
 .subst h0;exact bq _
 .by_cases h1:q=2^p
  .have hc:fk q=p:=by rw[h1];have:=sN (m:=1) rfl p;rwa[aK]at this
   unfold canon;rw[aB h0,hc,h1,Nat.div_self (aJ ag)];exact aI (gS.2 (show 1<2^1 by decide)) hp
  .exact aI (vq h0).2.2.2 (gS.2 ae)
theorem Lc(m:Nat)(e:Int)(more:Bool)(p:Nat)(out:Bool):fT m e more p out<=2^p:=by
 have:=Lr m e p;unfold fT;split<;>omega
theorem nQ(neg:Bool)(m:Nat)(e:Int)(more:Bool)(p:Nat)(up:Bool)(hp:1<=p)(dR:p<=4096):(fi neg m e more p up).Valid:=by
 unfold fi;by_cases ho:gX m e more p (neg != up)=true
 .rw [aC ho]
  by_cases hn:(neg != up)=true
  .rw [aC hn];exact oO
  .rw [aB hn]
   have rj:2<=2^p:=by
    have:=aR (n:=2) ag hp;omega
   have h0:2^p-1≠0:= ae ;have hb:dU (2^p-1)=p:=by
    obtain⟨j,rfl⟩:∃ j,p=j+1:=⟨p-1, ae⟩
    have h2:2^(j+1)=2^j*2:=aN _ _;have h3:=aJ (n:=j) ( ag :0<2);exact qQ ae ae 
   obtain⟨h1,h2,h3,h4⟩:=vq (s:=neg) (e:=(16384:Int)-p) h0;have h5:=jK h3;exact⟨oq _ _ _,.inr ⟨ ae, ae, ae, ae⟩⟩
 .rw [aB ho]
  refine⟨oq _ _ _,?_⟩;by_cases h0:fT m e more p (neg != up)=0
  .rw [h0];exact .inl rfl
  .have hq:=UW (s:=neg) (e:=e+(ey m e p:Int)) (Lc m e more p (neg != up)) hp
   obtain⟨h1,h2,h3,h4⟩:=vq (s:=neg) (e:=e+(ey m e p:Int)) h0;have h5:=jK h3;have h6:-16384<=e+(ey m e p:Int):=by unfold ey;omega
   unfold gX at ho;simp only[ne_eq,h0,dI,decide_true,agT,bF]at ho;exact .inr ⟨ ae, ae, ae, ae⟩
theorem zQ{neg:Bool}{m:Nat}{e:Int}{more:Bool}{p:Nat}{up:Bool}:eU neg m e more p up=0↔¬(gX m e more p (neg != up)=true/\(neg != up)=true):=by
 unfold eU;cases gX m e more p (neg != up)<;>cases(neg != up)<;>simp
theorem Le(neg:Bool)(m:Nat)(e:Int)(more:Bool)(p:Nat)(h1:eU neg m e more p false=0)(h2:eU neg m e more p true=0):
 ew (fi neg m e more p false) (fi neg m e more p true)<=0:=by
 have mn:¬gX m e more p true=true:=by
  cases neg
  .rw [zQ]at h2;simpa using h2
  .rw [zQ]at h1;simpa using h1
 have hle:fT m e more p false<=fT m e more p true:=by
  unfold fT;simp only[aT,false_and,aL];omega
 have ik:¬gX m e more p false=true:=by
  unfold gX at mn ⊢;intro h;apply mn;simp only[aX,bF]at h ⊢;have:=qd hle;exact⟨ ae, ae⟩
 have key:∀ o:Bool,¬gX m e more p o=true:=fun o=>by cases o;exact ik;exact mn
 unfold fi;rw[aB (key _),aB (key _)];rw[zK (k:=e+(ey m e p:Int)) (ue (bI _)) (ue (bI _)),wI (bI _),wI (bI _)];rw[show(e+(ey m e p:Int)-(e+(ey m e p:Int))).toNat=0 by omega];simp only[bG,bD];unfold rN;cases neg
 .simp only[aT,aL,Bool.false_bne]
  split
  .decide
  .split<;>omega
 .simp only[aW,Bool.true_bne,cV,dr]
  split
  .decide
  .split<;>omega
def iH(b:Dy)(low:Int):Nat:=if low<=b.e then b.m*2^(b.e-low).toNat else b.m/2^(low-b.e).toNat
def jo(b:Dy)(low:Int):Bool:=decide (¬low<=b.e)&&decide (b.m%2^(low-b.e).toNat≠0)
theorem Re{a b:Dy}(ha:a.Canon)(hb:b.Canon){K:Int}(h1:K<=a.e)(h2:K<=b.e):ep a b=gp (a.num K+b.num K) K:=by
 refine LD (k:=K) (vt ha hb) (oq _ _ _) (Cc (.inr h1) (.inr h2)) (EP (bI _)) ?_;rw[En (.inr h1) (.inr h2),Iu (bI _),show(K-K).toNat=0 by omega];simp
theorem Eb{a b:Dy}(ha:a.Canon)(hb:b.Canon){K:Int}(h1:K<=a.e)(h2:K<=b.e)(s:Bool)(Z:Nat)(h0:Z≠0)(hz:a.num K+b.num K=if s then -(Z:Int)else(Z:Int))(p:Nat)(up:Bool):
 ff (ep a b) p up=fi s Z K false p up/\fg (ep a b) p up=eU s Z K false p up:=by
 have:ep a b=canon s Z K:=by rw[Re ha hb h1 h2,hz,Ct]
 rw[this];exact Qv s up Z K p h0
theorem DR(d:Dy)(K:Int):d.num K=if d.neg then -(d.fm K:Int)else(d.fm K:Int):=rfl
section
variable {a b:Dy} {low:Int} {p:Nat}
theorem Jg(a0:a.m≠0)(b0:b.m≠0)(h1:low<=a.e)(h2:low<=a.dX-p-8)(h3:low<=b.e\/3<=a.dX-b.dX):
 ∃ (K:Int) (d:Nat),K<=a.e/\K<=b.e/\low=K+d/\a.fm K=a.m*2^(a.e-low).toNat*2^d/\iH b low=b.fm K/2^d/\(jo b low=decide (b.fm K%2^d≠0)) /\
  (d=0\/(p+8<=dU (a.m*2^(a.e-low).toNat)/\dU (b.fm K/2^d)+3<=dU (a.m*2^(a.e-low).toNat))):=by
 have ta:a.dX=dU a.m+a.e:=by unfold Dy.dX;rw[aB a0]
 have tb:b.dX=dU b.m+b.e:=by unfold Dy.dX;rw[aB b0]
 have hx:=mg a0 (a.e-low).toNat
 by_cases h:low<=b.e
 .refine ⟨low,0,h1,h, ae,by unfold Dy.fm;simp,?_,?_,.inl rfl⟩
  .unfold iH Dy.fm;rw[aC h];simp
  .unfold jo;simp[h,cF]
 .refine ⟨b.e,(low-b.e).toNat, ae,bI _, ae,?_,?_,?_,.inr ⟨ ae,?_⟩⟩
  .unfold Dy.fm
   rw[aP,<-aH];congr 2;omega
  .unfold iH Dy.fm;rw[aB h];simp
  .unfold jo Dy.fm;simp[h]
  .have hm:b.fm b.e=b.m:=by unfold Dy.fm;simp
   rw[hm];have hd:dU (b.m/2^(low-b.e).toNat)<=dU b.m-(low-b.e).toNat:=by
    rw[gS,bC (aJ ag),<-aH];exact gS.1 ae 
   have:=h3.resolve_left h;omega
theorem adX(ha:a.Canon)(hb:b.Canon)(a0:a.m≠0)(b0:b.m≠0)(h1:low<=a.e)(h2:low<=a.dX-p-8)(h3:low<=b.e\/3<=a.dX-b.dX)(hs:a.neg=b.neg)(up:Bool):
 fi a.neg (a.m*2^(a.e-low).toNat+iH b low) low (jo b low) p up=ff (ep a b) p up/\eU a.neg (a.m*2^(a.e-low).toNat+iH b low) low (jo b low) p up=fg (ep a b) p up:=by
 obtain⟨K,d,k1,k2,rfl,hx,hy,hl,hd⟩:=Jg (p:=p) a0 b0 h1 h2 h3;generalize a.m*2^(a.e-(K+d)).toNat=x at *
 have ma:=sn a0 K;have mb:=sn b0 K;obtain⟨r1,r2⟩:=Eb ha hb k1 k2 a.neg (a.fm K+b.fm K) ae (by
  rw[DR a,DR b,<-hs];cases a.neg<;>simp<;>omega) p up
 rw[r1,r2,hy,hl];have e1:(a.fm K+b.fm K)/2^d=x+b.fm K/2^d:=by
  rw[hx,aQ x,agL (aJ ag)]
 have e2:(a.fm K+b.fm K)%2^d=b.fm K%2^d:=by
  rw[hx,aQ x,agM]
 rcases hd with rfl|⟨ux,xT⟩
 .simp only[bG,agy,cF]at e1 ⊢
  rw[<-e1];have:K+((0:Nat):Int)=K:= ae ;rw[this];simp
 .have hb:p<dU ((a.fm K+b.fm K)/2^d):=by
   rw[e1];have:=qd (show x<=x+b.fm K/2^d by omega);omega
  have h:=Cy (E:=K) (more:=false) a.neg up hb;rw[e1,e2,Bool.false_or]at h;exact h
theorem aeL{x N D:Nat}(hD:0<D)(h:N<=x*D):(x*D-N)/D=x-(N/D+if N%D≠0 then 1 else 0)/\((x*D-N)%D≠0↔N%D≠0)/\N/D+(if N%D≠0 then 1 else 0)<=x:=by
 have hN:=bM N D;have hr:=aS N hD;generalize N/D=q at *
 generalize N%D=r at *
 by_cases h0:r=0
 .subst h0
  simp only[ne_eq,not_true_eq_false,aL,bd]at hN ⊢;have hq:q<=x:=by
   apply bh;intro h';have:=a6 D (show x+1<=q by omega);rw[aO,aQ q]at this;omega
  have e:x*D-N=(x-q)*D:=by rw[Nat.sub_mul,<-hN,aQ q]
  rw[e,cU _ hD,agZ];exact⟨rfl, aj,hq⟩
 .have hq:q+1<=x:=by
   apply bh;intro h';have:=a6 D (show x<=q by omega);rw[aQ q]at this;omega
  have e:x*D-N=(D-r)+D*(x-(q+1)):=by
   have h1:D*(x-(q+1))=D*x-D*(q+1):=Nat.mul_sub _ _ _;have h2:D*(q+1)<=D*x:=bN _ hq;rw[aY,bD]at h1 h2;rw[aQ x];omega
  have ek:D-r<D:= ae ;rw[e,agA _ _ hD,bW ek,dh,bn ek];simp only[ne_eq,h0,dI,aW];exact⟨ ae,⟨fun _=>trivial,fun _=> ae⟩,hq⟩
theorem adW(ha:a.Canon)(hb:b.Canon)(a0:a.m≠0)(b0:b.m≠0)(h1:low<=a.e)(h2:low<=a.dX-p-8)(h3:low<=b.e\/3<=a.dX-b.dX)(hs:a.neg≠b.neg)(up:Bool):
  (a.m*2^(a.e-low).toNat<iH b low+(if jo b low=true then 1 else 0) ->
   fi (!a.neg) (iH b low+(if jo b low=true then 1 else 0)-a.m*2^(a.e-low).toNat) low false p up=ff (ep a b) p up/\eU (!a.neg) (iH b low+(if jo b low=true then 1 else 0)-a.m*2^(a.e-low).toNat) low false p up=fg (ep a b) p up) /\
  (iH b low+(if jo b low=true then 1 else 0)<=a.m*2^(a.e-low).toNat ->
   (a.m*2^(a.e-low).toNat-(iH b low+(if jo b low=true then 1 else 0))=0/\jo b low=false->ep a b=eW) /\
   (¬(a.m*2^(a.e-low).toNat-(iH b low+(if jo b low=true then 1 else 0))=0/\jo b low=false) ->
    fi a.neg (a.m*2^(a.e-low).toNat-(iH b low+(if jo b low=true then 1 else 0))) low (jo b low) p up=ff (ep a b) p up/\eU a.neg (a.m*2^(a.e-low).toNat-(iH b low+(if jo b low=true then 1 else 0))) low (jo b low) p up=fg (ep a b) p up)):=by
 obtain⟨K,d,k1,k2,rfl,hx,hy,hl,hd⟩:=Jg (p:=p) a0 b0 h1 h2 h3;generalize a.m*2^(a.e-(K+d)).toNat=x at *
 have ma:=sn a0 K;have mb:=sn b0 K;have Di:a.num K+b.num K=if a.neg then(b.fm K:Int)-a.fm K else(a.fm K:Int)-b.fm K:=by
  rw[DR a,DR b];cases h:a.neg<;>cases h':b.neg<;>simp[h,h']at hs ⊢ <;> omega
 rw[hy,hl];rcases hd with rfl|⟨ux,xT⟩
 .
  rw[bG,bD]at hx;have e0:K+((0:Nat):Int)=K:= ae ;simp only[bG,agy,cF,ne_eq,not_true_eq_false,decide_false,aT,aL,bd,e0,and_true];refine⟨fun ek=>?_,fun hle=>⟨fun hz=>?_,fun hz=>?_⟩⟩
  .obtain ⟨r1,r2⟩:=Eb ha hb k1 k2 (!a.neg) (b.fm K-x) ae (by
    rw[Di,hx];cases a.neg<;>simp<;>omega) p up
   exact⟨r1.symm,r2.symm⟩
  .rw [Re ha hb k1 k2,Di,hx]
   have:x=b.fm K:= ae ;rw[this];cases a.neg<;>simp[gp,canon,eW]
  .obtain ⟨r1,r2⟩:=Eb ha hb k1 k2 a.neg (x-b.fm K) ae (by
    rw[Di,hx];cases a.neg<;>simp<;>omega) p up
   exact⟨r1.symm,r2.symm⟩
 .
  have hD:=aJ (n:=d) ( ag :0<2);have kn:x≠0:=by intro h;rw[h]at ux;simp[dU]at ux
  obtain⟨j,hj⟩:∃ j,dU x=j+3:=⟨dU x-3, ae⟩
  have iA:=oh kn;rw[hj,show j+3-1=j+2 by omega,aH]at iA;have yp:b.fm K/2^d<2^j:=gS.1 ae;have hle:b.fm K<=x*2^d:=by
   have h5:=bM (b.fm K) (2^d);have h6:=aS (b.fm K) hD;have h7:2^d*(b.fm K/2^d+1)<=2^d*x:=bN _ ae;rw[aY,bD,aQ _ x]at h7;omega
  obtain⟨e1,e2,e3⟩:=aeL hD hle;have hc:(if decide (b.fm K%2^d≠0)=true then 1 else 0)=(if b.fm K%2^d≠0 then 1 else 0):=by simp only[bF]
  rw[hc];have sU:p<dU (x-(b.fm K/2^d+if b.fm K%2^d≠0 then 1 else 0)):=by
   have h8:2^(j+1)<=x-(b.fm K/2^d+if b.fm K%2^d≠0 then 1 else 0):=by
    rw[aN];have h9:2^j*2^2<=x:=iA;have qY:=aJ (n:=j) ( ag :0<2);split<;>omega
   have:=pM.2 h8;omega
  refine⟨fun ek=> ae,fun _=>⟨fun hz=>?_,fun _=>?_⟩⟩
  .exfalso
   rw[hz.1]at sU;simp[dU]at sU
  .obtain ⟨r1,r2⟩:=Eb ha hb k1 k2 a.neg (a.fm K-b.fm K) (by
    intro h;rw[<-hx,h,Nat.zero_div]at e1;rw[<-e1]at sU;simp[dU]at sU) (by
    rw[Di];cases a.neg<;>simp<;>omega) p up
   rw[r1,r2,hx];rw[<-e1]at sU ⊢;have h:=Cy (E:=K) (more:=false) a.neg up sU;rw[Bool.false_or]at h;have e4:decide ((x*2^d-b.fm K)%2^d≠0)=decide (b.fm K%2^d≠0):=decide_eq_decide.2 e2;rw[e4]at h;exact h
end
def eE(m:Nat)(e:Int)(p:Nat):Int:=max (e+dU m-p) (-16384)
def jv(m:Nat)(e:Int)(more:Bool)(p:Nat)(up:Bool):Nat:=
 if eE m e p<=e then m*2^(e-eE m e p).toNat else m/2^(eE m e p-e).toNat+if(up&&(more||decide (m%2^(eE m e p-e).toNat≠0)))=true then 1 else 0
theorem Lb{m:Nat}{e:Int}{more:Bool}{p:Nat}(up:Bool)(h0:m≠0)(hm:more=true->p<dU m)(hp:1<=p):
 (dU (jv m e more p up):Int)+eE m e p<=16384/\fi false m e more p up=canon false (jv m e more p up) (eE m e p)/\eU false m e more p up=0 \/
 16384<(dU (jv m e more p up):Int)+eE m e p/\((up=true/\fi false m e more p up=eW/\eU false m e more p up=9)\/(up=false/\fi false m e more p up=canon false (2^p-1) (16384-p)/\eU false m e more p up=0)):=by
 have mn:(false != up)=up:=by cases up<;>rfl
 by_cases hU:eE m e p<=e
 .
  have YZ:more=false:=by
   cases GP:more with
   | false=>rfl
   | true=>have:=hm GP;unfold eE at hU;omega
  subst YZ;have hK:ey m e p=0:=by unfold eE at hU;unfold ey;omega
  have hQ:fT m e false p up=m:=by unfold fT;rw[hK];simp[cF]
  have hP:jv m e false p up=m*2^(e-eE m e p).toNat:=by unfold jv;rw[aC hU]
  have hb:dU (jv m e false p up)=dU m+(e-eE m e p).toNat:=by rw[hP];exact mg h0 _
  have hc:canon false (jv m e false p up) (eE m e p)=canon false m e:=by
   rw[hP];have:=Fm false m e (e-eE m e p).toNat
   rwa[show e-((e-eE m e p).toNat:Int)=eE m e p by omega]at this
  have hO:gX m e false p up=decide (16384<(dU m:Int)+e):=by
   unfold gX;rw[hQ,hK];simp[h0]
  by_cases pd:16384<(dU m:Int)+e
  .refine .inr ⟨ ae,?_⟩
   unfold fi eU;rw[mn,hO,aE pd];cases up
   .exact .inr ⟨rfl,rfl,rfl⟩
   .exact .inl ⟨rfl,rfl,rfl⟩
  .refine .inl ⟨ ae,?_,?_⟩
   .unfold fi
    rw[mn,hO,aD pd,aB ag,hQ,hK,hc];simp
   .unfold eU
    rw[mn,hO,aD pd];simp
 .have hK:ey m e p=(eE m e p-e).toNat:=by unfold eE at hU ⊢;unfold ey;omega
  have hQ:fT m e more p up=jv m e more p up:=by
   unfold fT jv;rw[aB hU,hK];congr 1;cases up<;>cases more<;>simp
  have Yx:e+(ey m e p:Int)=eE m e p:=by rw[hK];omega
  have fK:16384<(dU (jv m e more p up):Int)+eE m e p->jv m e more p up≠0:=by
   intro h hz;have lk:m/2^(eE m e p-e).toNat=0:=by
    unfold jv at hz;rw[aB hU]at hz;exact(Nat.add_eq_zero_iff.1 hz).1
   have ek:m<2^(eE m e p-e).toNat:=by
    rcases Nat.div_eq_zero_iff.1 lk with h|h
    .exact absurd h (dm (aJ ag))
    .exact h
   have:=gS.2 ek;rw[hz,nP]at h;have oH:=jK h0;unfold eE at h hU this;omega
  have hO:gX m e more p up=decide (16384<(dU (jv m e more p up):Int)+eE m e p):=by
   unfold gX;rw[hQ,show(dU (jv m e more p up):Int)+e+(ey m e p:Int)=(dU (jv m e more p up):Int)+eE m e p by omega];by_cases pd:16384<(dU (jv m e more p up):Int)+eE m e p
   .simp [fK pd]
   .simp [pd]
  by_cases pd:16384<(dU (jv m e more p up):Int)+eE m e p
  .refine .inr ⟨pd,?_⟩
   unfold fi eU;rw[mn,hO,aE pd];cases up
   .exact .inr ⟨rfl,rfl,rfl⟩
   .exact .inl ⟨rfl,rfl,rfl⟩
  .refine .inl ⟨ ae,?_,?_⟩
   .unfold fi
    rw[mn,hO,aD pd,aB ag,hQ,Yx]
   .unfold eU
    rw[mn,hO,aD pd];simp
theorem La{m:Nat}{e:Int}{more:Bool}{p:Nat}{up:Bool}(h0:m≠0):dU (jv m e more p up)<=p+1:=by
 unfold jv;split
 .rename_i h
  rw[mg h0];unfold eE at h ⊢;omega
 .rename_i h
  have h1:m/2^(eE m e p-e).toNat<2^p:=by
   rw[bC (aJ ag),<-aH];refine gS.1 ?_;unfold eE at h ⊢;omega
  refine gS.2 ?_;rw[aN];have:0<2^p:=aJ ag;split<;>omega
theorem jF{m k:Nat}(h:dU m<=32*k):(dN m).length<=k:=by
 refine qA ?_;rw[kQ];exact gS.1 h
theorem qR{m k:Nat}(h:(dN m).length<=k):dU m<=32*k:=by
 have:=yG h;rw[kQ]at this;exact gS.2 this
theorem Lt{m n:Nat}(h:dU m<=n):m/2^n=0/\m%2^n=m:=by
 have:=gS.1 h;exact⟨bW this,bn this⟩
theorem Ox(m n:Nat):(fN (m/2^n*2^n) m != 0)=decide (m%2^n≠0):=by
 have h:=bM m (2^n);rw[aQ]at h;unfold fN;by_cases h0:m%2^n=0
 .rw [aB ae,aB ae];simp[h0]
 .rw [aC ae];simp[h0]
theorem Lh(neg:Bool)(m:Nat)(e:Int)(more:Bool)(p:Nat)(up:Bool):
 eU neg m e more p up=eU false m e more p (up != neg) /\
 (eU false m e more p (up != neg)=0->neg=true->eD (fi false m e more p (up != neg))=fi neg m e more p up) /\
 ((eU false m e more p (up != neg)≠0\/neg=false)->fi false m e more p (up != neg)=fi neg m e more p up):=by
 have mn:(false != (up != neg))=(neg != up):=by cases up<;>cases neg<;>rfl
 have hE:eU neg m e more p up=eU false m e more p (up != neg):=by unfold eU;rw[mn]
 refine⟨hE,fun h hn=>?_,fun h=>?_⟩
 .have h':=zQ.1 h
  rw[mn]at h';have neg_canon:∀ q u,eD (canon false q u)=canon true q u:=by
   intro q u;unfold canon eD;by_cases hq:q=0
   .simp [hq]
   .rw [aB hq,aB hq]
    have:=yO hq;have h0:q/2^fk q≠0:= ae ;simp[h0]
  subst hn;unfold fi;rw[mn];by_cases ho:gX m e more p (true != up)=true
  .have hu:(true != up)=false:=by
    cases hq:(true != up)with
    | false=>rfl
    | true=>exact absurd ⟨ho,hq⟩ h'
   rw[aC ho,aC ho,hu];simp only[aT,aL];exact neg_canon _ _
  .rw [aB ho,aB ho]
   exact neg_canon _ _
 .rcases h with h|h
  .have h1:gX m e more p (neg != up)=true/\(neg != up)=true:=by
    by_cases q:gX m e more p (neg != up)=true/\(neg != up)=true
    .exact q
    .exact absurd (zQ.2 (by rw[mn];exact q)) h
   unfold fi;rw[mn,aC h1.1,aC h1.2,aC h1.1,aC h1.2]
  .subst h
   cases up<;>rfl
def eF(a b:Dy)(p:Nat):Int:=if a.dX-b.dX<=2 then min (min a.e (a.dX-p-8)) b.e else min a.e (a.dX-p-8)
def jy(a b:Dy)(p:Nat):Nat:=a.m*2^(a.e-eF a b p).toNat
def iF(a b:Dy)(p:Nat):Nat:=iH b (eF a b p)+if(a.neg != b.neg&&jo b (eF a b p))=true then 1 else 0
def kG(a b:Dy)(p:Nat):Bool:=(a.neg != b.neg)&&decide (jy a b p<iF a b p)
def gY(a b:Dy)(p:Nat):Nat:=if a.neg=b.neg then jy a b p+iF a b p else if jy a b p<iF a b p then iF a b p-jy a b p else jy a b p-iF a b p
def jg(a b:Dy)(p:Nat):Bool:=jo b (eF a b p) && !kG a b p
theorem I9(a b:Dy)(p:Nat):eF a b p<=a.e/\eF a b p<=a.dX-p-8/\(eF a b p<=b.e\/3<=a.dX-b.dX):=by
 unfold eF;split<;>omega
theorem BS{a:Dy}(a0:a.m≠0):a.dX=dU a.m+a.e:=by unfold Dy.dX;rw[aB a0]
structure Ss(a b:Dy)(p:Nat):Prop where
 lo:-17000<=eF a b p
 hi:eF a b p<=16384
 x:dU (jy a b p)<=4100
 x0:jy a b p≠0
 sh:(a.e-eF a b p).toNat<=60000
 sh2:(b.e-eF a b p).toNat<=60000
 sh3:(eF a b p-b.e).toNat<=60000
 y:dU (iH b (eF a b p))<=4100
 l:jo b (eF a b p)=true->p+8<=dU (jy a b p)/\dU (iH b (eF a b p))+3<=dU (jy a b p)
theorem Ep{a b:Dy}{p:Nat}(ha:a.Valid)(hb:b.Valid)(a0:a.m≠0)(b0:b.m≠0)(ht:b.dX<=a.dX)(dR:p<=512):Ss a b p:=by
 have ra:=ha.range.resolve_left a0;have rb:=hb.range.resolve_left b0;have ta:=BS a0;have tb:=BS b0;obtain⟨h1,h2,h3⟩:=I9 a b p;have hx:dU (jy a b p)=dU a.m+(a.e-eF a b p).toNat:=mg a0 _;have uA:eF a b p=a.e\/eF a b p=a.dX-p-8\/(a.dX-b.dX<=2/\eF a b p=b.e):=by unfold eF;split<;>omega
 have hy:dU (iH b (eF a b p))<=dU (jy a b p):=by
  unfold iH;split
  .rw [mg b0];omega
  .have:dU (b.m/2^(eF a b p-b.e).toNat)<=dU b.m-(eF a b p-b.e).toNat:=by
    rw[gS,bC (aJ ag),<-aH];exact gS.1 ae 
   omega
 have pa:=jK a0;have pb:=jK b0;refine⟨ ae, ae, ae,?_, ae, ae, ae, ae,fun hl=>?_⟩
 .intro h
  unfold jy at h;exact(cN a0 (dm (aJ ag))) h
 .obtain ⟨K,d,k1,k2,k3,k4,k5,k6,k7⟩:=Jg (p:=p) a0 b0 h1 h2 h3
  rcases k7 with rfl|⟨k7,k8⟩
  .rw [k6]at hl;simp[cF]at hl
  .rw [k5];exact⟨k7,k8⟩
theorem Jv{a b:Dy}{p:Nat}(ha:a.Valid)(hb:b.Valid)(a0:a.m≠0)(b0:b.m≠0)(ht:b.dX<=a.dX)(dR:p<=512):
 dU (iF a b p)<=4101/\dU (gY a b p)<=4102/\(jg a b p=true->p<dU (gY a b p)):=by
 obtain⟨l1,l2,l3,l4,l5,l6,l7,l8,l9⟩:=Ep ha hb a0 b0 ht dR;have hy:iF a b p<=iH b (eF a b p)+1:=by unfold iF;split<;>omega
 obtain⟨K,hK⟩:∃ K:Nat,K=4100:=⟨_,rfl⟩
 have g1:4101=K+1:= ae ;have g2:4102=K+2:= ae ;rw[g1,g2];rw[<-hK]at l3 l8;have hy4:iH b (eF a b p)<2^K:=gS.1 l8;have hx4:jy a b p<2^K:=gS.1 l3;have e1:(2:Nat)^(K+1)=2*2^K:=by rw[aN];omega
 have e2:(2:Nat)^(K+2)=4*2^K:=by rw[aH];omega
 generalize (2:Nat)^K=Z at *
 refine⟨gS.2 ae,gS.2 ?_,fun hl=>?_⟩
 .unfold gY;split
  .omega
  .split<;>omega
 .unfold jg at hl
  simp only[aX,dJ]at hl;obtain⟨q1,q2⟩:=l9 hl.1;have hX:2^(dU (jy a b p)-1)<=jy a b p:=oh l4;rw[pM];have hY:iH b (eF a b p)<2^(dU (jy a b p)-3):=gS.1 ae;have e3:(2:Nat)^(dU (jy a b p)-1)=4*2^(dU (jy a b p)-3):=by
   rw[show dU (jy a b p)-1=(dU (jy a b p)-3)+2 by omega,aH];omega
  have hp:(2:Nat)^p<=2^(dU (jy a b p)-3):=aR ag ae;unfold gY;split
  .omega
  .rename_i hs
   unfold kG at hl;rw[aB (by
    have:=hl.2;simp[hs]at this;omega)]
   omega
theorem Rk{a b:Dy}{p:Nat}(ha:a.Valid)(hb:b.Valid)(a0:a.m≠0)(b0:b.m≠0)(up:Bool):
 (gY a b p=0/\jg a b p=false->ep a b=eW) /\
 (¬(gY a b p=0/\jg a b p=false)->fi (a.neg != kG a b p) (gY a b p) (eF a b p) (jg a b p) p up=ff (ep a b) p up/\eU (a.neg != kG a b p) (gY a b p) (eF a b p) (jg a b p) p up=fg (ep a b) p up):=by
 obtain⟨h1,h2,h3⟩:=I9 a b p;by_cases hs:a.neg=b.neg
 .have hn:(a.neg != b.neg)=false:=by rw[hs];simp
  have e1:kG a b p=false:=by unfold kG;rw[hn];rfl
  have e2:jg a b p=jo b (eF a b p):=by unfold jg;rw[e1];simp
  have e3:gY a b p=a.m*2^(a.e-eF a b p).toNat+iH b (eF a b p):=by unfold gY;rw[aC hs];unfold jy iF;rw[hn];simp
  have hx:gY a b p≠0:=by
   rw[e3];have:=cN a0 (dm (aJ (n:=(a.e-eF a b p).toNat) (show 0<2 by decide)));omega
  refine⟨fun h=>absurd h.1 hx,fun _=>?_⟩;rw[e1,e2,e3];have:=adX ha.canon hb.canon a0 b0 h1 h2 h3 hs up;cases hA:a.neg<;>rw[hA]at this<;>exact this
 .have hn:(a.neg != b.neg)=true:=by simpa using hs
  have eY:iF a b p=iH b (eF a b p)+if jo b (eF a b p)=true then 1 else 0:=by unfold iF;rw[hn];simp
  obtain⟨r1,r2⟩:=adW (p:=p) ha.canon hb.canon a0 b0 h1 h2 h3 hs up;rw[<-eY]at r1 r2;change jy a b p<iF a b p->_ at r1;change iF a b p<=jy a b p->_ at r2;by_cases hc:jy a b p<iF a b p
  .have e1:kG a b p=true:=by unfold kG;rw[hn,aE hc];rfl
   have e2:jg a b p=false:=by unfold jg;rw[e1];simp
   have e3:gY a b p=iF a b p-jy a b p:=by unfold gY;rw[aB hs,aC hc]
   rw[e1,e2,e3];refine⟨fun h=> ae,fun _=>?_⟩;have:=r1 hc;cases hA:a.neg<;>rw[hA]at this<;>exact this
  .have e1:kG a b p=false:=by unfold kG;rw[hn,aD hc];rfl
   have e2:jg a b p=jo b (eF a b p):=by unfold jg;rw[e1];simp
   have e3:gY a b p=jy a b p-iF a b p:=by unfold gY;rw[aB hs,aB hc]
   rw[e1,e2,e3];obtain⟨q1,q2⟩:=r2 ae;refine⟨q1,fun h=>?_⟩;have:=q2 h;cases hA:a.neg<;>rw[hA]at this<;>exact this
end Go.Proofs.YtdgnpeddgdclhaaGreatDoor.Fp
namespace Go.Proofs.YtdgnpeddgdclhaaGreatDoor
open Go.RowKit Fp
theorem TF(a b:Nat):dU (a*b)<=dU a+dU b:=by
 rw[gS,aH];exact Nat.mul_lt_mul'' (mE a) (mE b)
theorem adr(a:Dy)(A:Option Addr)(c:Nat)(w:World)(h:Sl w A c (dN a.m))(ha:a.Valid):
 Calls Tryz.prog 46 #[DV a A c] w fun e w'=>e = .returned (.bool true)/\Ext w w':=
 D6 a.neg A c (dN a.m) a.e w true h (by have:=ha.exp;omega) (by have:=ha.exp;omega) (by simp[ha.qV])
theorem adm(a:Dy)(A:Option Addr)(c:Nat)(w:World)(h:Sl w A c (dN a.m)):
 Calls Tryz.prog 47 #[DV a A c] w fun e w'=>e = .returned (.int .i64 a.sign)/\Ext w w':=by
 have:=adl a.neg A c (dN a.m) a.e w h (qK _);rw[eV]at this;exact this
theorem adp(a:Dy)(A:Option Addr)(c:Nat)(w:World)(h:Sl w A c (dN a.m))(ha:ub a):
 Calls Tryz.prog 97 #[DV a A c] w fun e w'=>e = .returned (.int .i64 a.dX)/\Ext w w':=by
 have:=adn a.neg A c (dN a.m) a.e w h (qK _) (by have:=ha.len;omega) (by have:=ha.lo;omega) (by have:=ha.hi;omega);rw[eV]at this;exact this
open Go.RowKit Fp
theorem Cu(d:Dy)(A:Option Addr)(c:Nat)(w:World)(hs:Sl w A c (dN d.m))(hl:(dN d.m).length<=100000000)(gq:-10000000<=d.e)(fV:d.e<=10000000):
 Calls Tryz.prog 78 #[DV d A c] w (oQ w (fS d) (iJ d)):=by
 by_cases hd:iM d
 .rw [vu hd,Cw hd];exact KW d A c w hs hl gq fV hd
 .rw [Fq hd,Cv hd];exact U7 d A c w hs hl gq fV hd
theorem Fk(s:Bool)(m:Nat)(e:Int){n:Nat}(hm:(dN m).length<=n):(dN (canon s m e).m).length<=n/\e<=max (canon s m e).e e/\((canon s m e).e<=max 0 (e+32*n))/\min 0 e<=(canon s m e).e:=by
 unfold canon;by_cases h0:m=0
 .rw [aC h0];simp only[j8]
  exact⟨bq _, ae, ae, ae⟩
 .rw [aB h0]
  have h1:fk m<32*n:=by
   have h1:=Bv h0;have h2:=yG hm;rw[kQ]at h2;exact(Nat.pow_lt_pow_iff_right ( ag :1<2)).1 (bE h1 h2)
  exact⟨aI (il (bj _ _)) hm, ae,by simp only;omega,by simp only;omega⟩
theorem xq(s:Bool)(m:Nat)(e:Int)(A:Option Addr)(c:Nat)(w:World)(hs:Sl w A c (dN m))(hl:(dN m).length<=256)(gq:-1000000<=e)(fV:e<=1000000)(fO:Tb w):
 Calls Tryz.prog 79 #[.bool s,.slice A (dN m).length c,.int .i64 e] w (rK w (canon s m e)):=by
 have:=CD s A c (dN m) e w hs ae (by have:=ky (dN m);unfold ig at this;omega) gq fV fO;rw[eV]at this;exact this
theorem Ir{m:Nat}(h:m=0):(((dN m).length:Int)==0)=true:=by rw[h,j8];rfl
theorem DX{m:Nat}(h:m≠0):(((dN m).length:Int)==0)=false:=by
 refine aw ?_;have:dN m≠[]:=fun e=>h (Oj.1 e)
 have:=dx.2 this;omega
theorem VN(a b:Dy)(A B:Option Addr)(c d:Nat)(w:World)(_hs:Sl w A c (dN a.m))(hr:Sl w B d (dN b.m))(fO:Tb w)(hb:b.Valid)(h0:a.m=0):
 Calls Tryz.prog 190 #[DV a A c,DV b B d] w (oQ w (fS (ep a b)) (iJ (ep a b))):=by
 have tf:ep a b=b:=by unfold ep;rw[aC h0]
 rw[tf,vu hb.range,Cw hb.range];have hl:=hb.len;obtain⟨gq,fV⟩:=hb.exp;have HC:=Lib.hid (fun w (h:Sl w B d (dN b.m)) (ht:Tb w)=>xq b.neg b.m b.e B d w h hl ae ae ht);rw[hb.canon.xn]at HC;have n0:=Ir h0;clear tf h0;have hE:=((Ext.alloc w (.cells #[.bool b.neg,.slice B ((dN b.m).length) d,.int .i64 b.e] 31)).trans (Ext.alloc (w.alloc (.cells #[.bool b.neg,.slice B ((dN b.m).length) d,.int .i64 b.e] 31)) (.cells #[.bool b.neg,.slice B ((dN b.m).length) d,.int .i64 b.e] 31))).trans (Ext.alloc ((w.alloc (.cells #[.bool b.neg,.slice B ((dN b.m).length) d,.int .i64 b.e] 31)).alloc (.cells #[.bool b.neg,.slice B ((dN b.m).length) d,.int .i64 b.e] 31)) (.cells #[.bool false,.slice none 0 0,.int .i64 0] 31));have b1:=((eJ.newAt (W:=w) (g:=w.heap.size) aj b.neg B ((dN b.m).length) d b.e).alloc (.cells #[.bool b.neg,.slice B ((dN b.m).length) d,.int .i64 b.e] 31)).alloc (.cells #[.bool false,.slice none 0 0,.int .i64 0] 31);have b2:=(eJ.newAt (W:=(w.alloc (.cells #[.bool b.neg,.slice B ((dN b.m).length) d,.int .i64 b.e] 31))) (g:=w.heap.size+1) aj b.neg B ((dN b.m).length) d b.e).alloc (.cells #[.bool false,.slice none 0 0,.int .i64 0] 31);have b3:=eJ.newAt (W:=((w.alloc (.cells #[.bool b.neg,.slice B ((dN b.m).length) d,.int .i64 b.e] 31)).alloc (.cells #[.bool b.neg,.slice B ((dN b.m).length) d,.int .i64 b.e] 31))) (g:=w.heap.size+2) aj false none 0 0 0;replace hr:=hr.below hE;replace fO:=fO.below hE;go_enter Tryz.func190,Tryz.ntmps190;go_wp2_with fail
 (with_reducible refine(HC.out _ hr fO).mono ?_)
 rintro r w1 ⟨A_h4,c_h4,rfl,h4,hb⟩;replace hE:=hE.trans hb;replace hr:=hr.below hb;replace fO:=fO.below hb;replace b1:=b1.ext hb;replace b2:=b2.ext hb;replace b3:=b3.ext hb;clear hb;have B3:=b3.c0;have yb30:=b3.fr 0;have B4:=b3.c1;have yb31:=b3.fr 1;have B5:=b3.c2;have yb32:=b3.fr 2;go_wp2;exact qf (d:=b) rfl rfl rfl rfl (b3.set _ _ _ _ _) rfl (b3.mH h4 _ _ _ _ _) (eJ.mr hE ae _ _ _ _ _)
theorem VO(a b:Dy)(A B:Option Addr)(c d:Nat)(w:World)(hs:Sl w A c (dN a.m))(fO:Tb w)(ha:a.Valid)(h1:a.m≠0)(h0:b.m=0):
 Calls Tryz.prog 190 #[DV a A c,DV b B d] w (oQ w (fS (ep a b)) (iJ (ep a b))):=by
 have tf:ep a b=a:=by unfold ep;rw[aB h1,aC h0]
 rw[tf,vu ha.range,Cw ha.range];have hl:=ha.len;obtain⟨gq,fV⟩:=ha.exp;have HC:=Lib.hid (fun w (h:Sl w A c (dN a.m)) (ht:Tb w)=>xq a.neg a.m a.e A c w h hl ae ae ht);rw[ha.canon.xn]at HC;have n0:=Ir h0;have n1:=DX h1;clear tf h0 h1;have hE:=((Ext.alloc w (.cells #[.bool a.neg,.slice A ((dN a.m).length) c,.int .i64 a.e] 31)).trans (Ext.alloc (w.alloc (.cells #[.bool a.neg,.slice A ((dN a.m).length) c,.int .i64 a.e] 31)) (.cells #[.bool b.neg,.slice B ((dN b.m).length) d,.int .i64 b.e] 31))).trans (Ext.alloc ((w.alloc (.cells #[.bool a.neg,.slice A ((dN a.m).length) c,.int .i64 a.e] 31)).alloc (.cells #[.bool b.neg,.slice B ((dN b.m).length) d,.int .i64 b.e] 31)) (.cells #[.bool false,.slice none 0 0,.int .i64 0] 31));have b1:=((eJ.newAt (W:=w) (g:=w.heap.size) aj a.neg A ((dN a.m).length) c a.e).alloc (.cells #[.bool b.neg,.slice B ((dN b.m).length) d,.int .i64 b.e] 31)).alloc (.cells #[.bool false,.slice none 0 0,.int .i64 0] 31);have b2:=(eJ.newAt (W:=(w.alloc (.cells #[.bool a.neg,.slice A ((dN a.m).length) c,.int .i64 a.e] 31))) (g:=w.heap.size+1) aj b.neg B ((dN b.m).length) d b.e).alloc (.cells #[.bool false,.slice none 0 0,.int .i64 0] 31);have b3:=eJ.newAt (W:=((w.alloc (.cells #[.bool a.neg,.slice A ((dN a.m).length) c,.int .i64 a.e] 31)).alloc (.cells #[.bool b.neg,.slice B ((dN b.m).length) d,.int .i64 b.e] 31))) (g:=w.heap.size+2) aj false none 0 0 0;replace hs:=hs.below hE;replace fO:=fO.below hE;go_enter Tryz.func190,Tryz.ntmps190;go_wp2_with fail
 (with_reducible refine(HC.out _ hs fO).mono ?_)
 rintro r w1 ⟨A_h4,c_h4,rfl,h4,hb⟩;replace hE:=hE.trans hb;replace hs:=hs.below hb;replace fO:=fO.below hb;replace b1:=b1.ext hb;replace b2:=b2.ext hb;replace b3:=b3.ext hb;clear hb;have B3:=b3.c0;have yb30:=b3.fr 0;have B4:=b3.c1;have yb31:=b3.fr 1;have B5:=b3.c2;have yb32:=b3.fr 2;go_wp2;exact qf (d:=a) rfl rfl rfl rfl (b3.set _ _ _ _ _) rfl (b3.mH h4 _ _ _ _ _) (eJ.mr hE ae _ _ _ _ _)
theorem FE(a:Dy)(A:Option Addr)(c:Nat)(w:World)(h:Sl w A c (dN a.m))(ha:a.Valid):
 Calls Tryz.prog 130 #[DV a A c] w fun e w'=>e = .returned (.int .i64 a.dX)/\Ext w w':=by
 have:=FD a.neg A c (dN a.m) a.e w h ha.qV;rw[eV]at this;exact this
def J0(L:List Nat)(w:World)(v:Value):Prop:=∃ A c,v = .slice A L.length c/\Sl w A c L
theorem agd{fn:Func}{p t:Tmp}(h:fn.results = #[.cell p 31,.tmp t]){a:Act}{w W:World}{k:Int}{g:Nat}
 (hp:a.tmps.getD p undef = .pointer (some ⟨g,0,none⟩)) (ht:a.tmps.getD t undef = .int .i64 k) (hd:a.defers=[]) (hb:eJ W g false none 0 0 0) (he:Ext w W):
 bodyPost Tryz.prog fn (oQ w eW k) .ret a W:=
 qf (d:=eW) h hp ht hd hb (by rw[show eW.m=0 from rfl,j8];rfl) (by rw[show eW.m=0 from rfl,j8];exact Sl.nil _) he
set_option maxRecDepth 100000 in
set_option maxHeartbeats 8000000 in
theorem VP(a b:Dy)(A B:Option Addr)(c d:Nat)(w:World)(hs:Sl w A c (dN a.m))(hr:Sl w B d (dN b.m))(fO:Tb w)(ha:a.Valid)(hb:b.Valid)(a0:a.m≠0)(b0:b.m≠0):
  Calls Tryz.prog 190 #[DV a A c,DV b B d] w (oQ w (fS (ep a b)) (iJ (ep a b))):=by
 have n1:=DX a0;have n2:=DX b0;have la:=ha.len;have lb:=hb.len;obtain⟨ea1,ea2⟩:=ha.exp;obtain⟨eb1,eb2⟩:=hb.exp;obtain⟨k,hk⟩:∃ k,min a.e b.e=k:=⟨_,rfl⟩
 have M4:k<=a.e:= ae ;have M5:k<=b.e:= ae ;have kj:-16384<=k:= ae ;have nU:k<=16384:= ae ;have HTa:=Lib.hid (fun w (h:Sl w A c (dN a.m))=>FE a A c w h ha);have HTb:=Lib.hid (fun w (h:Sl w B d (dN b.m))=>FE b B d w h hb);have HBIG:=Lib.hid (fun h1 h2=>aeP ha hb a0 b0 hk h1 h2);have HFIT:=Lib.hid (fun h=>aeR ha hb a0 b0 hk h);have HS1:=Lib.hid (fun(h:a.neg=b.neg)=>show ep a b=canon a.neg (a.m*2^(a.e-k).toNat+b.m*2^(b.e-k).toNat) k from by
  have:=Rh (s:=a.neg) a0 b0 hk;rw[<-this,show(⟨a.neg,b.m,b.e⟩:Dy)=b by rw[h]])
 have HS2:=Lib.hid (fun(h:a.neg≠b.neg) (mA:b.m*2^(b.e-k).toNat<=a.m*2^(a.e-k).toNat)=>Rf a0 b0 hk h mA);have HS3:=Lib.hid (fun(h:a.neg≠b.neg) (mA:a.m*2^(a.e-k).toNat<b.m*2^(b.e-k).toNat)=>Rg a0 b0 hk h mA);have yi:-16384<=a.dX/\a.dX<=16384:=by unfold Dy.dX;rw[aB a0];have:=ha.Rv a0;omega
 have Zq:-16384<=b.dX/\b.dX<=16384:=by unfold Dy.dX;rw[aB b0];have:=hb.Rv b0;omega
 obtain⟨ago,agp⟩:=yi;obtain⟨agq,agr⟩:=Zq;obtain⟨S,hS⟩:∃ S,ep a b=S:=⟨_,rfl⟩
 rw[hS]at HBIG HS1 ⊢;have HS2:=Lib.hid (fun h h'=>hS▸HS2.out h h');have HS3:=Lib.hid (fun h h'=>hS▸HS3.out h h');have HXa:=Lib.hid (fun w (h:Sl w A c (dN a.m)) (hf:(dN (a.m*2^(a.e-k).toNat)).length<=256)=>Eh A c (dN a.m) (a.e-k) w h la ae ae (by rw[eV];exact hf));have HXb:=Lib.hid (fun w (h:Sl w B d (dN b.m)) (hf:(dN (b.m*2^(b.e-k).toNat)).length<=256)=>Eh B d (dN b.m) (b.e-k) w h lb ae ae (by rw[eV];exact hf));rw[eV]at HXa HXb;generalize a.m*2^(a.e-k).toNat=x at *
 generalize b.m*2^(b.e-k).toNat=y at *
 generalize a.dX=ta at *
 generalize b.dX=tb at *
 obtain⟨mx,Nb⟩:∃ mx,max ta tb=mx:=⟨_,rfl⟩
 have Dd:-16384<=mx/\mx<=16384:= ae ;obtain⟨Dd,qq⟩:=Dd;rw[Nb]at HBIG HFIT;have X8:=fO;have pI:=hs;have rm:=hr;clear a0 b0 hS;have hE:=((Ext.alloc w (.cells #[.bool a.neg,.slice A ((dN a.m).length) c,.int .i64 a.e] 31)).trans (Ext.alloc (w.alloc (.cells #[.bool a.neg,.slice A ((dN a.m).length) c,.int .i64 a.e] 31)) (.cells #[.bool b.neg,.slice B ((dN b.m).length) d,.int .i64 b.e] 31))).trans (Ext.alloc ((w.alloc (.cells #[.bool a.neg,.slice A ((dN a.m).length) c,.int .i64 a.e] 31)).alloc (.cells #[.bool b.neg,.slice B ((dN b.m).length) d,.int .i64 b.e] 31)) (.cells #[.bool false,.slice none 0 0,.int .i64 0] 31));have b1:=((eJ.newAt (W:=w) (g:=w.heap.size) aj a.neg A ((dN a.m).length) c a.e).alloc (.cells #[.bool b.neg,.slice B ((dN b.m).length) d,.int .i64 b.e] 31)).alloc (.cells #[.bool false,.slice none 0 0,.int .i64 0] 31);have b2:=(eJ.newAt (W:=(w.alloc (.cells #[.bool a.neg,.slice A ((dN a.m).length) c,.int .i64 a.e] 31))) (g:=w.heap.size+1) aj b.neg B ((dN b.m).length) d b.e).alloc (.cells #[.bool false,.slice none 0 0,.int .i64 0] 31);have b3:=eJ.newAt (W:=((w.alloc (.cells #[.bool a.neg,.slice A ((dN a.m).length) c,.int .i64 a.e] 31)).alloc (.cells #[.bool b.neg,.slice B ((dN b.m).length) d,.int .i64 b.e] 31))) (g:=w.heap.size+2) aj false none 0 0 0;replace hs:=hs.below hE;replace hr:=hr.below hE;replace fO:=fO.below hE;go_enter Tryz.func190,Tryz.ntmps190;have jH:=b1.c0;have jI:=b1.c1;have jJ:=b1.c2
 have oi:=b2.c0;have oj:=b2.c1;have om:=b2.c2;go_upto_region 6 with fail;clear jH jI jJ oi oj om;obtain⟨W1,hW⟩:∃ W,(((w.alloc (.cells #[.bool a.neg,.slice A ((dN a.m).length) c,.int .i64 a.e] 31)).alloc (.cells #[.bool b.neg,.slice B ((dN b.m).length) d,.int .i64 b.e] 31)).alloc (.cells #[.bool false,.slice none 0 0,.int .i64 0] 31))=W:=⟨_,rfl⟩
 rw[hW]at hs hr fO b1 b2 b3 hE ⊢;clear hW;go_cut [7,8] (fun s0 s1 wx=>s0=(.int .i64 ta)/\s1=(.int .i64 tb)/\Ext W1 wx)
 case first=>
  have b1':=b1.drew;have b2':=b2.drew;have iK:=hs.drew;have nA:=hr.drew;go_region_held3 (fun w'=>w'.cell? ⟨w.heap.size,0,none⟩=some (.bool a.neg)/\w'.cell? ⟨w.heap.size,1,none⟩=some (.slice A ((dN a.m).length) c)/\w'.cell? ⟨w.heap.size,2,none⟩=some (.int .i64 a.e)/\w'.cell? ⟨w.heap.size+1,0,none⟩=some (.bool b.neg)/\w'.cell? ⟨w.heap.size+1,1,none⟩=some (.slice B ((dN b.m).length) d)/\w'.cell? ⟨w.heap.size+1,2,none⟩=some (.int .i64 b.e))
   (first|with_reducible exact⟨(b1').c0,(b1').c1,(b1').c2,(b2').c0,(b2').c1,(b2').c2⟩|with_reducible exact⟨(b1'.ext eZ).c0,(b1'.ext eZ).c1,(b1'.ext eZ).c2,(b2'.ext eZ).c0,(b2'.ext eZ).c1,(b2'.ext eZ).c2⟩|with_reducible exact⟨(b1'.ext eB).c0,(b1'.ext eB).c1,(b1'.ext eB).c2,(b2'.ext eB).c0,(b2'.ext eB).c1,(b2'.ext eB).c2⟩|with_reducible exact⟨(b1'.ext (eZ.trans eB)).c0,(b1'.ext (eZ.trans eB)).c1,(b1'.ext (eZ.trans eB)).c2,(b2'.ext (eZ.trans eB)).c0,(b2'.ext (eZ.trans eB)).c1,(b2'.ext (eZ.trans eB)).c2⟩|with_reducible exact⟨(b1'.ext (eB.trans eZ)).c0,(b1'.ext (eB.trans eZ)).c1,(b1'.ext (eB.trans eZ)).c2,(b2'.ext (eB.trans eZ)).c0,(b2'.ext (eB.trans eZ)).c1,(b2'.ext (eB.trans eZ)).c2⟩)
   (first
    | (go_at_call_of 130 (Value.agg #[.bool a.neg,.slice A (dN a.m).length c,.int .i64 a.e]);(first|(with_reducible refine(HTa.out _ iK).mono ?_)|(with_reducible refine(HTa.out _ (iK.below eB)).mono ?_));rintro r wx0 ⟨rfl,eZ⟩)
    | (go_at_call_of 130 (Value.agg #[.bool b.neg,.slice B (dN b.m).length d,.int .i64 b.e]);(first|(with_reducible refine(HTb.out _ nA).mono ?_)|(with_reducible refine(HTb.out _ (nA.below eZ)).mono ?_));rintro r wx1 ⟨rfl,eB⟩))
  all_goals (go_wp2_with fail;go_meet;(first|exact⟨rfl,rfl,(Ext.drew _).trans (eZ.trans eB)⟩|exact⟨rfl,rfl,(Ext.drew _).trans (eB.trans eZ)⟩))
 obtain⟨rfl,rfl,hb⟩:=hcut;replace hE:=hE.trans hb;replace hs:=hs.below hb;replace hr:=hr.below hb;replace fO:=fO.below hb;replace b1:=b1.ext hb;replace b2:=b2.ext hb;replace b3:=b3.ext hb;clear hb;go_upto_region 7 with fail;go_cut [63] (fun s wx=>s = .bool (decide (4097<mx-k/\(1<ta-tb\/1<tb-ta)))/\wx=wc)
 case first=>
  by_cases c1:4097<mx-k
  .by_cases c2:1<ta-tb
   .go_wp2
    go_meet;exact⟨congrArg Value.bool (aE ⟨c1,.inl c2⟩).symm,rfl⟩
   .by_cases c3:1<tb-ta
    .go_wp2
     go_meet;exact⟨congrArg Value.bool (aE ⟨c1,.inr c3⟩).symm,rfl⟩
    .go_wp2
     go_meet;exact⟨congrArg Value.bool (aD ae).symm,rfl⟩
  .go_wp2
   go_meet;exact⟨congrArg Value.bool (aD ae).symm,rfl⟩
 obtain⟨rfl,Zt⟩:=hcut;subst Zt;by_cases hB:4097<mx-k/\(1<ta-tb\/1<tb-ta)
 .have hd:decide (4097<mx-k/\(1<ta-tb\/1<tb-ta))=true:=aE hB
  have iz:=Lib.hid (HBIG.out hB.1 hB.2);rw[hd];clear hB hd;have B3:=b3.c0;have yb30:=b3.fr 0;have B4:=b3.c1;have yb31:=b3.fr 1;have B5:=b3.c2;have yb32:=b3.fr 2;go_wp2;rw[Fq iz.out,Cv iz.out];exact agd rfl rfl rfl rfl (b3.set _ _ _ _ _) (eJ.mr hE ae _ _ _ _ _)
 .have hd:decide (4097<mx-k/\(1<ta-tb\/1<tb-ta))=false:=aD hB
  obtain⟨th,G9⟩:=HFIT.out hB;have HXY:=Lib.hid (A4 (k:=129) (aI (TC th G9) ag));have nD:=A4 (k:=129) (aI th ag);have Du:=A4 (k:=129) (aI G9 ag);have HXa2:=Lib.hid (fun w h=>HXa.out w h ae);have HXb2:=Lib.hid (fun w h=>HXb.out w h ae);rw[hd];clear hB hd th G9 Nb HBIG HFIT HXa HXb HTa HTb;have G7:IntKind.i64.wrap (a.e-k)=a.e-k:=i64_in _ ae ae;have Zu:IntKind.i64.wrap (b.e-k)=b.e-k:=i64_in _ ae ae;have jH:=b1.c0;have jI:=b1.c1;have jJ:=b1.c2;have oi:=b2.c0;have oj:=b2.c1;have om:=b2.c2;go_upto_region 9 with fail;clear jH jI jJ oi oj om;go_cut [9,10] (fun s0 s1 wx=>J0 ((dN x)) wx s0/\J0 ((dN y)) wx s1/\Ext wc wx)
  case first=>
   have b1':=b1.drew;have b2':=b2.drew;have iK:=hs.drew;have nA:=hr.drew;go_region_held3 (fun w'=>w'.cell? ⟨w.heap.size,0,none⟩=some (.bool a.neg)/\w'.cell? ⟨w.heap.size,1,none⟩=some (.slice A ((dN a.m).length) c)/\w'.cell? ⟨w.heap.size,2,none⟩=some (.int .i64 a.e)/\w'.cell? ⟨w.heap.size+1,0,none⟩=some (.bool b.neg)/\w'.cell? ⟨w.heap.size+1,1,none⟩=some (.slice B ((dN b.m).length) d)/\w'.cell? ⟨w.heap.size+1,2,none⟩=some (.int .i64 b.e))
    (first|with_reducible exact⟨(b1').c0,(b1').c1,(b1').c2,(b2').c0,(b2').c1,(b2').c2⟩|with_reducible exact⟨(b1'.ext eZ).c0,(b1'.ext eZ).c1,(b1'.ext eZ).c2,(b2'.ext eZ).c0,(b2'.ext eZ).c1,(b2'.ext eZ).c2⟩|with_reducible exact⟨(b1'.ext eB).c0,(b1'.ext eB).c1,(b1'.ext eB).c2,(b2'.ext eB).c0,(b2'.ext eB).c1,(b2'.ext eB).c2⟩|with_reducible exact⟨(b1'.ext (eZ.trans eB)).c0,(b1'.ext (eZ.trans eB)).c1,(b1'.ext (eZ.trans eB)).c2,(b2'.ext (eZ.trans eB)).c0,(b2'.ext (eZ.trans eB)).c1,(b2'.ext (eZ.trans eB)).c2⟩|with_reducible exact⟨(b1'.ext (eB.trans eZ)).c0,(b1'.ext (eB.trans eZ)).c1,(b1'.ext (eB.trans eZ)).c2,(b2'.ext (eB.trans eZ)).c0,(b2'.ext (eB.trans eZ)).c1,(b2'.ext (eB.trans eZ)).c2⟩)
    (first
     | (go_at_call_of 132 (Value.slice A (dN a.m).length c);(first|(with_reducible refine(HXa2.out _ iK).mono ?_)|(with_reducible refine(HXa2.out _ (iK.below eB)).mono ?_));rintro r wx0 ⟨A0,c0,rfl,lN,eZ⟩)
     | (go_at_call_of 132 (Value.slice B (dN b.m).length d);(first|(with_reducible refine(HXb2.out _ nA).mono ?_)|(with_reducible refine(HXb2.out _ (nA.below eZ)).mono ?_));rintro r wx1 ⟨A1,c1,rfl,nx,eB⟩))
   all_goals (go_wp2_with fail;go_meet;(first|exact⟨⟨_,_,rfl,lN.below eB⟩,⟨_,_,rfl,nx⟩,(Ext.drew _).trans (eZ.trans eB)⟩|exact⟨⟨_,_,rfl,lN⟩,⟨_,_,rfl,nx.below eZ⟩,(Ext.drew _).trans (eB.trans eZ)⟩))
  obtain⟨⟨A_hx,c_hx,rfl,hx⟩,⟨A_hy,c_hy,rfl,hy⟩,hb⟩:=hcut;replace hE:=hE.trans hb;replace hs:=hs.below hb;replace hr:=hr.below hb;replace fO:=fO.below hb;replace b1:=b1.ext hb;replace b2:=b2.ext hb;replace b3:=b3.ext hb;clear hb;have HA:=Lib.hid (fun w A c B d (h:Sl w A c (dN x)) (k:Sl w B d (dN y))=>O3 A B c d (dN x) (dN y) w h k ae ae (by rw[eV,eV];exact aI HXY.out ag));rw[eV,eV]at HA;by_cases hn:a.neg=b.neg
  .have e1:(a.neg==b.neg)=true:=by rw[hn];exact beq_self_eq_true _
   have hD:=Lib.hid (HS1.out hn);have HO:=Lib.hid (fun w A c (h:Sl w A c (dN (x+y))) (ht:Tb w)=>xq a.neg (x+y) k A c w h (aI HXY.out ag) ae ae ht);clear hn;have vJ:=Fk a.neg (x+y) k HXY.out;have HK:=Lib.hid (fun w A c (h:Sl w A c (dN (canon a.neg (x+y) k).m))=>Cu (canon a.neg (x+y) k) A c w h ae ae ae);generalize canon a.neg (x+y) k=D at *
   clear vJ HS1 HS2 HS3;have jH:=b1.c0;have jI:=b1.c1;have jJ:=b1.c2;have oi:=b2.c0;have oj:=b2.c1;have om:=b2.c2;go_wp2_with fail
   (with_reducible refine(HA.out _ _ _ _ _ hx hy).mono ?_)
   rintro r w2 ⟨A3,c3,rfl,h3,hb⟩;clear jH jI jJ oi oj om;replace hE:=hE.trans hb;replace hs:=hs.below hb;replace hr:=hr.below hb;replace fO:=fO.below hb;replace hx:=hx.below hb;replace hy:=hy.below hb;replace b1:=b1.ext hb;replace b2:=b2.ext hb;replace b3:=b3.ext hb;clear hb;have jH:=b1.c0;have jI:=b1.c1;have jJ:=b1.c2;go_wp2_with fail
   (with_reducible refine(HO.out _ _ _ h3 fO).mono ?_)
   rintro r w3 ⟨A_h4,c_h4,rfl,h4,hb⟩;clear jH jI jJ;replace hE:=hE.trans hb;replace hs:=hs.below hb;replace hr:=hr.below hb;replace fO:=fO.below hb;replace hx:=hx.below hb;replace hy:=hy.below hb;replace h3:=h3.below hb;replace b1:=b1.ext hb;replace b2:=b2.ext hb;replace b3:=b3.ext hb;clear hb;have jH:=b1.c0;have jI:=b1.c1;have jJ:=b1.c2;go_wp2_with fail
   (with_reducible refine(HK.out _ _ _ h4).mono ?_)
   rintro r w4 ⟨A_h5,c_h5,rfl,h5,hb⟩;clear jH jI jJ;replace hE:=hE.trans hb;replace hs:=hs.below hb;replace hr:=hr.below hb;replace fO:=fO.below hb;replace hx:=hx.below hb;replace hy:=hy.below hb;replace h3:=h3.below hb;replace h4:=h4.below hb;replace b1:=b1.ext hb;replace b2:=b2.ext hb;replace b3:=b3.ext hb;clear hb;have B3:=b3.c0;have yb30:=b3.fr 0;have B4:=b3.c1;have yb31:=b3.fr 1;have B5:=b3.c2;have yb32:=b3.fr 2;go_wp2;rw[hD.out];exact qf (d:=(fS D)) rfl rfl rfl rfl (b3.set _ _ _ _ _) rfl (b3.mH h5 _ _ _ _ _) (eJ.mr hE ae _ _ _ _ _)
  .have e1:(a.neg==b.neg)=false:=aw hn
   have HC:=Lib.hid (fun w A c B d (h:Sl w A c (dN x)) (k:Sl w B d (dN y))=>Bg A B c d (dN x) (dN y) w h k ae ae);rw[eV,eV]at HC;by_cases ek:x<y
   .have hD:=Lib.hid (HS3.out hn ek)
    have d0:decide (fN x y<0)=true:=by unfold fN;rw[aC ek];rfl
    have HSb:=Lib.hid (fun w A c B d (h:Sl w A c (dN y)) (k:Sl w B d (dN x))=>Ip A B c d (dN y) (dN x) w h k ae ae (by rw[eV,eV];omega));rw[eV,eV]at HSb;have yp:=aI (il (cI y x)) Du;have HO:=Lib.hid (fun w A c (h:Sl w A c (dN (y-x))) (ht:Tb w)=>xq b.neg (y-x) k A c w h ae ae ae ht);have vJ:=Fk b.neg (y-x) k yp;have HK:=Lib.hid (fun w A c (h:Sl w A c (dN (canon b.neg (y-x) k).m))=>Cu (canon b.neg (y-x) k) A c w h ae ae ae);generalize canon b.neg (y-x) k=D at *
    generalize fN x y=q at *
    clear vJ HS1 HS2 HS3 hn ek yp HA;have jH:=b1.c0;have jI:=b1.c1;have jJ:=b1.c2;have oi:=b2.c0;have oj:=b2.c1;have om:=b2.c2;go_wp2_with fail
    (with_reducible refine(HC.out _ _ _ _ _ hx hy).mono ?_)
    rintro r w2 ⟨rfl,hb⟩;clear jH jI jJ oi oj om;replace hE:=hE.trans hb;replace hs:=hs.below hb;replace hr:=hr.below hb;replace fO:=fO.below hb;replace hx:=hx.below hb;replace hy:=hy.below hb;replace b1:=b1.ext hb;replace b2:=b2.ext hb;replace b3:=b3.ext hb;clear hb;have vP:w.heap.size<=w.heap.size:=aG _;have jH:=b1.c0;have jI:=b1.c1;have jJ:=b1.c2;have oi:=b2.c0;have oj:=b2.c1;have om:=b2.c2;have fb0:=b1.fr 0;have fb1:=b1.fr 1;have fb2:=b1.fr 2;have hx:=b1.mH hx b.neg b.e (dN b.m).length d B;have hy:=b1.mH hy b.neg b.e (dN b.m).length d B;have hE:=eJ.mr hE (aG _) b.neg B (dN b.m).length d b.e;have b3:=b3.rU (g':=w.heap.size) ae (.bool b.neg) (.slice B (dN b.m).length d) (.int .i64 b.e);have b1:=b1.set b.neg B (dN b.m).length d b.e;have fO:=X8.below hE;clear hs hr b2;go_wp2_with fail
    (with_reducible refine(HSb.out _ _ _ _ _ hy hx).mono ?_)
    rintro r w3 ⟨A3,c3,rfl,h3,hb⟩;clear jH jI jJ oi oj om;replace hE:=hE.trans hb;replace fO:=fO.below hb;replace hx:=hx.below hb;replace hy:=hy.below hb;replace b1:=b1.ext hb;replace b3:=b3.ext hb;clear hb;have jH:=b1.c0;have jI:=b1.c1;have jJ:=b1.c2;go_wp2_with fail
    (with_reducible refine(HO.out _ _ _ h3 fO).mono ?_)
    rintro r w4 ⟨A_h4,c_h4,rfl,h4,hb⟩;clear jH jI jJ;replace hE:=hE.trans hb;replace fO:=fO.below hb;replace hx:=hx.below hb;replace hy:=hy.below hb;replace h3:=h3.below hb;replace b1:=b1.ext hb;replace b3:=b3.ext hb;clear hb;have jH:=b1.c0;have jI:=b1.c1;have jJ:=b1.c2;go_wp2_with fail
    (with_reducible refine(HK.out _ _ _ h4).mono ?_)
    rintro r w5 ⟨A_h5,c_h5,rfl,h5,hb⟩;clear jH jI jJ;replace hE:=hE.trans hb;replace fO:=fO.below hb;replace hx:=hx.below hb;replace hy:=hy.below hb;replace h3:=h3.below hb;replace h4:=h4.below hb;replace b1:=b1.ext hb;replace b3:=b3.ext hb;clear hb;have B3:=b3.c0;have yb30:=b3.fr 0;have B4:=b3.c1;have yb31:=b3.fr 1;have B5:=b3.c2;have yb32:=b3.fr 2;go_wp2;rw[hD.out];exact qf (d:=(fS D)) rfl rfl rfl rfl (b3.set _ _ _ _ _) rfl (b3.mH h5 _ _ _ _ _) (eJ.mr hE ae _ _ _ _ _)
   .have hD:=Lib.hid (HS2.out hn ae)
    have d0:decide (fN x y<0)=false:=by unfold fN;rw[aB ek];split<;>rfl
    have HSb:=Lib.hid (fun w A c B d (h:Sl w A c (dN x)) (k:Sl w B d (dN y))=>Ip A B c d (dN x) (dN y) w h k ae ae (by rw[eV,eV];omega));rw[eV,eV]at HSb;have yp:=aI (il (cI x y)) nD;have HO:=Lib.hid (fun w A c (h:Sl w A c (dN (x-y))) (ht:Tb w)=>xq a.neg (x-y) k A c w h ae ae ae ht);have vJ:=Fk a.neg (x-y) k yp;have HK:=Lib.hid (fun w A c (h:Sl w A c (dN (canon a.neg (x-y) k).m))=>Cu (canon a.neg (x-y) k) A c w h ae ae ae);generalize canon a.neg (x-y) k=D at *
    generalize fN x y=q at *
    clear vJ HS1 HS2 HS3 hn ek yp HA;have jH:=b1.c0;have jI:=b1.c1;have jJ:=b1.c2;have oi:=b2.c0;have oj:=b2.c1;have om:=b2.c2;go_wp2_with fail
    (with_reducible refine(HC.out _ _ _ _ _ hx hy).mono ?_)
    rintro r w2 ⟨rfl,hb⟩;clear jH jI jJ oi oj om;replace hE:=hE.trans hb;replace hs:=hs.below hb;replace hr:=hr.below hb;replace fO:=fO.below hb;replace hx:=hx.below hb;replace hy:=hy.below hb;replace b1:=b1.ext hb;replace b2:=b2.ext hb;replace b3:=b3.ext hb;clear hb;go_wp2_with fail
    (with_reducible refine(HSb.out _ _ _ _ _ hx hy).mono ?_)
    rintro r w3 ⟨A3,c3,rfl,h3,hb⟩;replace hE:=hE.trans hb;replace hs:=hs.below hb;replace hr:=hr.below hb;replace fO:=fO.below hb;replace hx:=hx.below hb;replace hy:=hy.below hb;replace b1:=b1.ext hb;replace b2:=b2.ext hb;replace b3:=b3.ext hb;clear hb;have jH:=b1.c0;have jI:=b1.c1;have jJ:=b1.c2;go_wp2_with fail
    (with_reducible refine(HO.out _ _ _ h3 fO).mono ?_)
    rintro r w4 ⟨A_h4,c_h4,rfl,h4,hb⟩;clear jH jI jJ;replace hE:=hE.trans hb;replace hs:=hs.below hb;replace hr:=hr.below hb;replace fO:=fO.below hb;replace hx:=hx.below hb;replace hy:=hy.below hb;replace h3:=h3.below hb;replace b1:=b1.ext hb;replace b2:=b2.ext hb;replace b3:=b3.ext hb;clear hb;have jH:=b1.c0;have jI:=b1.c1;have jJ:=b1.c2;go_wp2_with fail
    (with_reducible refine(HK.out _ _ _ h4).mono ?_)
    rintro r w5 ⟨A_h5,c_h5,rfl,h5,hb⟩;clear jH jI jJ;replace hE:=hE.trans hb;replace hs:=hs.below hb;replace hr:=hr.below hb;replace fO:=fO.below hb;replace hx:=hx.below hb;replace hy:=hy.below hb;replace h3:=h3.below hb;replace h4:=h4.below hb;replace b1:=b1.ext hb;replace b2:=b2.ext hb;replace b3:=b3.ext hb;clear hb;have B3:=b3.c0;have yb30:=b3.fr 0;have B4:=b3.c1;have yb31:=b3.fr 1;have B5:=b3.c2;have yb32:=b3.fr 2;go_wp2;rw[hD.out];exact qf (d:=(fS D)) rfl rfl rfl rfl (b3.set _ _ _ _ _) rfl (b3.mH h5 _ _ _ _ _) (eJ.mr hE ae _ _ _ _ _)
theorem LC(a b:Dy)(A B:Option Addr)(c d:Nat)(w:World)(hs:Sl w A c (dN a.m))(hr:Sl w B d (dN b.m))(fO:Tb w)(ha:a.Valid)(hb:b.Valid):
 Calls Tryz.prog 190 #[DV a A c,DV b B d] w (oQ w (fS (ep a b)) (iJ (ep a b))):=by
 by_cases a0:a.m=0
 .exact VN a b A B c d w hs hr fO hb a0
 .by_cases b0:b.m=0
  .exact VO a b A B c d w hs fO ha a0 b0
  .exact VP a b A B c d w hs hr fO ha hb a0 b0
theorem Lz(a : Dy)(A : Option Addr)(c : Nat)(w : World)(hs : Sl w A c (dN a.m))(ha : a.Valid):
    Calls Tryz.prog 191 #[DV a A c] w (rK w (eD a)) := by
  have HV := Lib.hid (fun w (h : Sl w A c (dN a.m)) => CF a A c w h ha);have hl := ha.len;by_cases h0 : a.m=0
  . have hz : Hid (eD a=eW) := by
      show eD a=eW;obtain⟨s, m, e⟩ := a;rcases ha.canon with⟨h1, h2, h3⟩|h1
      . simp only at h1 h2 h3;subst h1 h2 h3;rfl
      . simp only at h0 h1;omega
    have n0 := Ir h0;clear h0;have hE := (Ext.alloc w (.cells #[.bool a.neg, .slice A ((dN a.m).length) c, .int .i64 a.e] 31)).trans (Ext.alloc (w.alloc (.cells #[.bool a.neg, .slice A ((dN a.m).length) c, .int .i64 a.e] 31)) (.cells #[.bool false, .slice none 0 0, .int .i64 0] 31));have b1 := (eJ.newAt (W := w) (g := w.heap.size) aj a.neg A ((dN a.m).length) c a.e).alloc (.cells #[.bool false, .slice none 0 0, .int .i64 0] 31);have b2 := eJ.newAt (W := (w.alloc (.cells #[.bool a.neg, .slice A ((dN a.m).length) c, .int .i64 a.e] 31))) (g := w.heap.size+1) aj false none 0 0 0;replace hs := hs.below hE;go_enter Tryz.func191, Tryz.ntmps191;go_wp2_with fail
    (with_reducible refine(HV.out _ hs).mono ?_)
    rintro r w1 ⟨rfl, hb⟩;replace hE := hE.trans hb;replace hs := hs.below hb;replace b1 := b1.ext hb;replace b2 := b2.ext hb;clear hb;have jH := b1.c0;have jI := b1.c1;have jJ := b1.c2;have oi := b2.c0;have yb20 := b2.fr 0;have oj := b2.c1;have yb21 := b2.fr 1;have om := b2.c2;have yb22 := b2.fr 2;go_wp2;rw[hz.out];exact px (d := eW) rfl rfl rfl (b2.set _ _ _ _ _) (by rw[show eW.m=0 from rfl, j8];rfl) (by rw[show eW.m=0 from rfl, j8];exact Sl.nil _) (eJ.mr hE ae _ _ _ _ _)
  . have n0 := DX h0
    have HN := Lib.hid (show eD a=⟨!a.neg, a.m, a.e⟩by unfold eD;simp[h0]);have HC := Lib.hid (fun w (h : Sl w A c (dN a.m)) => Ft A c (dN a.m) w h ae);clear h0;have hE := (Ext.alloc w (.cells #[.bool a.neg, .slice A ((dN a.m).length) c, .int .i64 a.e] 31)).trans (Ext.alloc (w.alloc (.cells #[.bool a.neg, .slice A ((dN a.m).length) c, .int .i64 a.e] 31)) (.cells #[.bool false, .slice none 0 0, .int .i64 0] 31));have b1 := (eJ.newAt (W := w) (g := w.heap.size) aj a.neg A ((dN a.m).length) c a.e).alloc (.cells #[.bool false, .slice none 0 0, .int .i64 0] 31);have b2 := eJ.newAt (W := (w.alloc (.cells #[.bool a.neg, .slice A ((dN a.m).length) c, .int .i64 a.e] 31))) (g := w.heap.size+1) aj false none 0 0 0;replace hs := hs.below hE;go_enter Tryz.func191, Tryz.ntmps191;go_wp2_with fail
    (with_reducible refine(HV.out _ hs).mono ?_)
    rintro r w1 ⟨rfl, hb⟩;replace hE := hE.trans hb;replace hs := hs.below hb;replace b1 := b1.ext hb;replace b2 := b2.ext hb;clear hb;have jH := b1.c0;have jI := b1.c1;have jJ := b1.c2;clear jH jI jJ;have jH := b1.c0;have jI := b1.c1;have jJ := b1.c2;go_wp2_with fail;clear jH jI jJ;replace hs := hs.drew;replace b1 := b1.drew;replace b2 := b2.drew;replace hE := hE.trans (Ext.drew _);go_region_held3 (fun w' => w'.cell? ⟨w.heap.size, 0, none⟩=some (.bool a.neg)/\w'.cell? ⟨w.heap.size, 1, none⟩=some (.slice A ((dN a.m).length) c)/\w'.cell? ⟨w.heap.size, 2, none⟩=some (.int .i64 a.e))
      (first|with_reducible exact⟨(b1).c0, (b1).c1, (b1).c2⟩|with_reducible exact⟨(b1.ext eZ).c0, (b1.ext eZ).c1, (b1.ext eZ).c2⟩|with_reducible exact⟨((b1.ext eZ).rU (g' := w.heap.size+1) ae _ _ _).c0, ((b1.ext eZ).rU (g' := w.heap.size+1) ae _ _ _).c1, ((b1.ext eZ).rU (g' := w.heap.size+1) ae _ _ _).c2⟩)
      (first
        | (go_at_call 129
           (with_reducible refine(HC.out _ hs).mono ?_)
           rintro r wx0 ⟨A_h4, c_h4, rfl, h4, eZ⟩;have bz := b2.ext eZ;have z0 := bz.c0;have z1 := bz.c1;have z2 := bz.c2;have y0 := bz.fr 0;have y1 := bz.fr 1;have y2 := bz.fr 2))
    replace hE := hE.trans eZ;replace hs := hs.below eZ;replace b1 := b1.ext eZ;replace b2 := b2.ext eZ;go_wp2;rw[HN.out];exact px (d := ⟨!a.neg,a.m,a.e⟩) rfl rfl rfl (bz.set _ _ _ _ _) rfl (bz.mH h4 _ _ _ _ _) (eJ.mr hE ae _ _ _ _ _)
theorem VM(a b : Dy)(A B : Option Addr)(c d : Nat)(w : World)(hs : Sl w A c (dN a.m))(hr : Sl w B d (dN b.m))(fO : Tb w)(ha : a.Valid)(hb : b.Valid):
    Calls Tryz.prog 156 #[DV a A c, DV b B d] w (oQ w (fS (ep a (eD b))) (iJ (ep a (eD b)))) := by
  have HVa := Lib.hid (fun w (h : Sl w A c (dN a.m)) => CF a A c w h ha);have HVb := Lib.hid (fun w (h : Sl w B d (dN b.m)) => CF b B d w h hb);have HN := Lib.hid (fun w (h : Sl w B d (dN b.m)) => Lz b B d w h hb);have HS := Lib.hid (fun w B d (h : Sl w A c (dN a.m)) (k : Sl w B d (dN (eD b).m)) (ht : Tb w) => LC a (eD b) A B c d w h k ht ha (tA hb));generalize iJ (ep a (eD b))=E at *
  generalize fS (ep a (eD b))=D at *
  generalize eD b=nb at *
  have hE := ((Ext.alloc w (.cells #[.bool a.neg, .slice A ((dN a.m).length) c, .int .i64 a.e] 31)).trans (Ext.alloc (w.alloc (.cells #[.bool a.neg, .slice A ((dN a.m).length) c, .int .i64 a.e] 31)) (.cells #[.bool b.neg, .slice B ((dN b.m).length) d, .int .i64 b.e] 31))).trans (Ext.alloc ((w.alloc (.cells #[.bool a.neg, .slice A ((dN a.m).length) c, .int .i64 a.e] 31)).alloc (.cells #[.bool b.neg, .slice B ((dN b.m).length) d, .int .i64 b.e] 31)) (.cells #[.bool false, .slice none 0 0, .int .i64 0] 31));have b1 := ((eJ.newAt (W := w) (g := w.heap.size) aj a.neg A ((dN a.m).length) c a.e).alloc (.cells #[.bool b.neg, .slice B ((dN b.m).length) d, .int .i64 b.e] 31)).alloc (.cells #[.bool false, .slice none 0 0, .int .i64 0] 31);have b2 := (eJ.newAt (W := (w.alloc (.cells #[.bool a.neg, .slice A ((dN a.m).length) c, .int .i64 a.e] 31))) (g := w.heap.size+1) aj b.neg B ((dN b.m).length) d b.e).alloc (.cells #[.bool false, .slice none 0 0, .int .i64 0] 31);have b3 := eJ.newAt (W := ((w.alloc (.cells #[.bool a.neg, .slice A ((dN a.m).length) c, .int .i64 a.e] 31)).alloc (.cells #[.bool b.neg, .slice B ((dN b.m).length) d, .int .i64 b.e] 31))) (g := w.heap.size+2) aj false none 0 0 0;replace hs := hs.below hE;replace hr := hr.below hE;replace fO := fO.below hE;go_enter Tryz.func156, Tryz.ntmps156;go_wp2_with fail
  (with_reducible refine(HVa.out _ hs).mono ?_)
  rintro r w1 ⟨rfl, hb⟩;replace hE := hE.trans hb;replace hs := hs.below hb;replace hr := hr.below hb;replace fO := fO.below hb;replace b1 := b1.ext hb;replace b2 := b2.ext hb;replace b3 := b3.ext hb;clear hb;have jH := b1.c0;have jI := b1.c1;have jJ := b1.c2;have oi := b2.c0;have oj := b2.c1;have om := b2.c2;go_wp2_with fail
  (with_reducible refine(HVb.out _ hr).mono ?_)
  rintro r w2 ⟨rfl, hb⟩;clear jH jI jJ oi oj om;replace hE := hE.trans hb;replace hs := hs.below hb;replace hr := hr.below hb;replace fO := fO.below hb;replace b1 := b1.ext hb;replace b2 := b2.ext hb;replace b3 := b3.ext hb;clear hb;have jH := b1.c0;have jI := b1.c1;have jJ := b1.c2;have oi := b2.c0;have oj := b2.c1;have om := b2.c2;go_wp2_with fail;clear jH jI jJ oi oj om;replace hs := hs.drew;replace hr := hr.drew;replace fO := fO.drew;replace b1 := b1.drew;replace b2 := b2.drew;replace b3 := b3.drew;replace hE := hE.trans (Ext.drew _);go_region_held3 (fun w' => w'.cell? ⟨w.heap.size, 0, none⟩=some (.bool a.neg)/\w'.cell? ⟨w.heap.size, 1, none⟩=some (.slice A ((dN a.m).length) c)/\w'.cell? ⟨w.heap.size, 2, none⟩=some (.int .i64 a.e)/\w'.cell? ⟨w.heap.size+1, 0, none⟩=some (.bool b.neg)/\w'.cell? ⟨w.heap.size+1, 1, none⟩=some (.slice B ((dN b.m).length) d)/\w'.cell? ⟨w.heap.size+1, 2, none⟩=some (.int .i64 b.e))
    (first|with_reducible exact⟨(b1).c0, (b1).c1, (b1).c2, (b2).c0, (b2).c1, (b2).c2⟩|with_reducible exact⟨(b1.ext eZ).c0, (b1.ext eZ).c1, (b1.ext eZ).c2, (b2.ext eZ).c0, (b2.ext eZ).c1, (b2.ext eZ).c2⟩|with_reducible exact⟨(b1.ext (eZ.trans eB)).c0, (b1.ext (eZ.trans eB)).c1, (b1.ext (eZ.trans eB)).c2, (b2.ext (eZ.trans eB)).c0, (b2.ext (eZ.trans eB)).c1, (b2.ext (eZ.trans eB)).c2⟩|with_reducible exact⟨((b1.ext (eZ.trans eB)).rU (g' := w.heap.size+2) ae _ _ _).c0, ((b1.ext (eZ.trans eB)).rU (g' := w.heap.size+2) ae _ _ _).c1, ((b1.ext (eZ.trans eB)).rU (g' := w.heap.size+2) ae _ _ _).c2, ((b2.ext (eZ.trans eB)).rU (g' := w.heap.size+2) ae _ _ _).c0, ((b2.ext (eZ.trans eB)).rU (g' := w.heap.size+2) ae _ _ _).c1, ((b2.ext (eZ.trans eB)).rU (g' := w.heap.size+2) ae _ _ _).c2⟩)
    (first
      | (go_at_call 191
         (with_reducible refine(HN.out _ hr).mono ?_)
         rintro r wx0 ⟨A_h4, c_h4, rfl, h4, eZ⟩)
      | (go_at_call 190
         (with_reducible refine(HS.out _ _ _ (hs.below eZ) h4 (fO.below eZ)).mono ?_)
         rintro r wx1 ⟨A_h5, c_h5, rfl, h5, eB⟩;have bz := b3.ext (eZ.trans eB);have z0 := bz.c0;have z1 := bz.c1;have z2 := bz.c2;have y0 := bz.fr 0;have y1 := bz.fr 1;have y2 := bz.fr 2))
  replace h4 := h4.below eB;replace hE := hE.trans (eZ.trans eB);replace hs := hs.below (eZ.trans eB);replace hr := hr.below (eZ.trans eB);replace fO := fO.below (eZ.trans eB);replace b1 := b1.ext (eZ.trans eB);replace b2 := b2.ext (eZ.trans eB);replace b3 := b3.ext (eZ.trans eB);go_wp2;exact qf (d := D) rfl rfl rfl rfl (bz.set _ _ _ _ _) rfl (bz.mH h5 _ _ _ _ _) (eJ.mr hE ae _ _ _ _ _)
open Go.RowKit Fp Pu
section
variable {f:FuncId} {L M:List Nat} {fu:E}
theorem Br(hk:ej L)(hc:∀ (vs:Array Value) (w:World),(callFunc f vs).run Tryz.prog w = .ok (.enter f vs) w)
 {R:Option Addr->Nat->World->Ending->World->Prop} (H:∀ A c w,Sl w A c L->Tb w->Calls Tryz.prog f #[.slice A L.length c] w (R A c w))
 (hR:∀ (A:Option Addr) (c:Nat) (B:Nat->Prop) w e w',Sl w A c L->(∀ b,B b->b<w.heap.size/\ks w b)->R A c w e w'->∃ v,e = .returned v/\Below w.heap.size w w'/\eo B (fun _=>True) w' fu v):dM f [dO L] fu:=by
 refine⟨hc,fun w B vs hK hB hr=>?_⟩;obtain⟨v1,vs,rfl,h1,hr⟩:=hr.iw;obtain rfl:=hr.lV;obtain⟨A,c,rfl,s1⟩:=qJ hk h1;exact(H A c w s1 hK).mono fun e w' h=>hR A c B w e w' s1 hB h
theorem Bs(hk:ej L){n:Int}(hc:∀ (vs:Array Value) (w:World),(callFunc f vs).run Tryz.prog w = .ok (.enter f vs) w)
 {R:Option Addr->Nat->World->Ending->World->Prop} (H:∀ A c w,Sl w A c L->Tb w->Calls Tryz.prog f #[.slice A L.length c,.int .i64 n] w (R A c w))
 (hR:∀ (A:Option Addr) (c:Nat) (B:Nat->Prop) w e w',Sl w A c L->(∀ b,B b->b<w.heap.size/\ks w b)->R A c w e w'->∃ v,e = .returned v/\Below w.heap.size w w'/\eo B (fun _=>True) w' fu v):dM f [dO L,iP n] fu:=by
 refine⟨hc,fun w B vs hK hB hr=>?_⟩;obtain⟨v1,vs,rfl,h1,hr⟩:=hr.iw;obtain⟨v2,vs,rfl,h2,hr⟩:=hr.iw;obtain rfl:=hr.lV;obtain rfl:=eo.gn h2;obtain⟨A,c,rfl,s1⟩:=qJ hk h1;exact(H A c w s1 hK).mono fun e w' h=>hR A c B w e w' s1 hB h
theorem uQ(hk:ej L)(hm:ej M)(hc:∀ (vs:Array Value) (w:World),(callFunc f vs).run Tryz.prog w = .ok (.enter f vs) w)
 {R:World->Ending->World->Prop} (H:∀ A c B d w,Sl w A c L->Sl w B d M->Tb w->Calls Tryz.prog f #[.slice A L.length c,.slice B M.length d] w (R w))
 (hR:∀ (B:Nat->Prop) w e w',(∀ b,B b->b<w.heap.size/\ks w b)->R w e w'->∃ v,e = .returned v/\Below w.heap.size w w'/\eo B (fun _=>True) w' fu v):dM f [dO L,dO M] fu:=by
 refine⟨hc,fun w B vs hK hB hr=>?_⟩;obtain⟨v1,vs,rfl,h1,hr⟩:=hr.iw;obtain⟨v2,vs,rfl,h2,hr⟩:=hr.iw;obtain rfl:=hr.lV;obtain⟨A,c,rfl,s1⟩:=qJ hk h1;obtain⟨A',d,rfl,s2⟩:=qJ hm h2;exact(H A c A' d w s1 s2 hK).mono fun e w' h=>hR B w e w' hB h
end
theorem BD{L:List Nat}{n:Int}(B:Nat->Prop)(w:World)(e:Ending)(w':World)(hB:∀ b,B b->b<w.heap.size/\ks w b)(h:w8 w L n e w'):∃ v,e = .returned v/\Below w.heap.size w w'/\eo B (fun _=>True) w' (.ef [dO L,iP n]) v:=
 let⟨_,_,h1,h2,h3⟩:=h
 ⟨_,h1,h3,fM.ef (.cons (u5 hB h3 h2) (.cons (.v _) (.nil _ _ _)))⟩
theorem rl{L:List Nat}(B:Nat->Prop)(w:World)(e:Ending)(w':World)(hB:∀ b,B b->b<w.heap.size/\ks w b)(h:pr w L e w'):∃ v,e = .returned v/\Below w.heap.size w w'/\eo B (fun _=>True) w' (dO L) v:=
 let⟨_,_,h1,h2,h3⟩:=h
 ⟨_,h1,h3,u5 hB h3 h2⟩
theorem pj(L:List Nat)(hk:ej L):dM 167 [dO L] (dO (dZ L)):=
 Br hk Tryz.call167 (fun A c w h _=>pO A c L w h) fun A c B w e w' h hB ⟨h1,h2⟩=>by subst h2;exact⟨_,h1,Below.refl _ _,u5 hB (Below.refl _ _) h.trim⟩
theorem O5(L:List Nat)(hk:ej L)(hl:(dZ L).length<=256):dM 165 [dO L] (.ef [dO (dZ L),iP 0]):=
 Br hk Tryz.call165 (fun A c w h _=>Bh A c L w h hl) fun A c B w e w' h hB r=>BD B w e w' hB r
theorem aa4(L:List Nat)(hk:ej L)(hl:L.length<=100000):dM 194 [dO L] (iP (dU (val L))):=
 Br hk Tryz.call194 (fun A c w h _=>O4 A c L w h ae) fun A c B w e w' h hB ⟨h1,h2⟩=>by subst h2;exact⟨_,h1,Below.refl _ _,.v _⟩
theorem Ij(L M:List Nat)(hk:ej L)(hm:ej M)(hl:L.length<=100000)(jC:M.length<=100000):dM 131 [dO L,dO M] (iP (fN (val L) (val M))):=
 uQ hk hm Tryz.call131 (fun A c B d w h k _=>Bg A B c d L M w h k ae ae) rv
theorem O9(m n:Nat)(hl:(dN m).length<=256)(hn:n<=65536)(hf:(dN (m*2^n)).length<=256):dM 168 [dO (dN m),iP (n:Int)] (.ef [dO (dN (m*2^n)),iP 0]):=
 Bs (gr m) Tryz.call168 (fun A c w h _=>O8 A c (dN m) n w h hl hn (by rw[eV];exact hf)) fun A c B w e w' h hB r=>by rw[eV]at r;exact BD B w e w' hB r
theorem Io(m n:Nat)(hl:(dN m).length<=256)(hn:n<=65536):dM 127 [dO (dN m),iP (n:Int)] (.ef [dO (dN (m/2^n)),iP 0]):=
 Bs (gr m) Tryz.call127 (fun A c w h _=>Pb A c (dN m) n w h hl hn) fun A c B w e w' h hB r=>by rw[eV]at r;exact BD B w e w' hB r
theorem DN(m n:Nat)(h1:(dN m).length<=256)(h2:(dN n).length<=256)(hf:(dN (m+n)).length<=256):dM 218 [dO (dN m),dO (dN n)] (.ef [dO (dN (m+n)),iP 0]):=by
 refine uQ (gr m) (gr n) Tryz.call218 (fun A c B d w h k _=>O3 A B c d (dN m) (dN n) w h k h1 h2 (by rw[eV,eV];exact hf)) ?_;rw[eV,eV];exact BD
theorem Bj(m n:Nat)(h1:(dN m).length<=256)(h2:(dN n).length<=256)(hf:n<=m):dM 219 [dO (dN m),dO (dN n)] (.ef [dO (dN (m-n)),iP 0]):=by
 refine uQ (gr m) (gr n) Tryz.call219 (fun A c B d w h k _=>Ip A B c d (dN m) (dN n) w h k h1 h2 (by rw[eV,eV];exact hf)) ?_;rw[eV,eV];exact BD
theorem nZ(m:Nat)(hl:(dN m).length<=100000):dM 194 [dO (dN m)] (iP (dU m)):=by
 have:=aa4 (dN m) (gr m) hl;rwa[eV]at this
theorem tv(m n:Nat)(hl:(dN m).length<=100000)(jC:(dN n).length<=100000):dM 131 [dO (dN m),dO (dN n)] (iP (fN m n)):=by
 have:=Ij (dN m) (dN n) (gr m) (gr n) hl jC;rwa[eV,eV]at this
theorem sO(a:Dy)(ha:a.Valid):dM 191 [dP a] (dP (eD a)):=sw Tryz.call191 (fun A c w h _=>Lz a A c w h ha) rd
theorem gh(a:Dy)(ha:a.Valid):dM 130 [dP a] (iP a.dX):=sw Tryz.call130 (fun A c w h _=>FE a A c w h ha) rv
theorem vz(s:Bool)(m:Nat)(e:Int)(hl:(dN m).length<=256)(gq:-32768<=e)(fV:e<=32768)(hd:iM (canon s m e)):dM 262 [bP s,dO (dN m),iP e] (.ef [dP (canon s m e),iP 0]):=by
 refine⟨Tryz.call262,fun w B vs hK hB hr=>?_⟩;obtain⟨v1,vs,rfl,h1,hr⟩:=hr.iw;obtain⟨v2,vs,rfl,h2,hr⟩:=hr.iw;obtain⟨v3,vs,rfl,h3,hr⟩:=hr.iw;obtain rfl:=hr.lV;obtain rfl:=eo.gn h1;obtain rfl:=eo.gn h3;obtain⟨A,c,rfl,s1⟩:=qJ (gr m) h2;have:=aaW s A c (dN m) e w s1 hl gq fV hK (by rw[eV];exact hd);rw[eV]at this;exact this.mono fun e w' h=>BB B w e w' hB h
theorem one_le:E.le (.sl false 1 1 fun i j=>[E.v (.int .u32 1)].getD (i*1+j) (.v (.bool false))) (dO (dN 1)):=by
 have e1:dN 1=[1]:=by rw[yE ag,show 1/4294967296=0 by decide,j8]
 rw[e1];refine .sl fun i j hi hj=>?_
 obtain rfl:i=0:= ae ;obtain rfl:j=0:= ae ;exact⟨.refl _,rfl⟩
def fD(d:Dy):List E:=[bP d.neg,dO (dN d.m),iP d.e]
def jl(l:List Dy):E:=.sl true l.length 3 fun i j=>(fD (l.getD i eW)).getD j .any
theorem FF(a:Dy):E.le (.sl true 1 3 fun i j=>[bP a.neg,dO (dN a.m),iP a.e].getD (i*3+j) (.v (.bool false))) (jl [a]):=.sl fun i j hi hj=>by
 obtain rfl:i=0:= ae ;rcases j with _|_|_|j
 .exact ⟨.refl _,rfl⟩
 .exact ⟨.refl _,rfl⟩
 .exact ⟨.refl _,rfl⟩
 .omega
theorem qW(a b:Dy):E.le (.sl true 2 3 fun i j=>[bP a.neg,dO (dN a.m),iP a.e,bP b.neg,dO (dN b.m),iP b.e].getD (i*3+j) (.v (.bool false))) (jl [a,b]):=.sl fun i j hi hj=>by
 obtain rfl|rfl:i=0\/i=1:= ae 
 all_goals
  rcases j with _|_|_|j
  .exact ⟨.refl _,rfl⟩
  .exact ⟨.refl _,rfl⟩
  .exact ⟨.refl _,rfl⟩
  .omega
theorem ko{n:Nat}(h:n≠0):((n:Int)==0)=false:= av 
theorem pk{n:Nat}(h:n=0):((n:Int)==0)=true:=by subst h;rfl
theorem DO{n:Nat}(h:n=0):((n:Int) != 0)=false:=by subst h;rfl
theorem Im{n:Nat}(h:n≠0):((n:Int) != 0)=true:= av 
theorem oM{m:Nat}:(dN m).length=0↔m=0:=by rw[List.length_eq_zero_iff,Oj]
theorem mo{m:Nat}(h:m≠0):(dN m).length≠0:=fun q=>h (oM.1 q)
theorem Fp.Dy.Valid.dN{d:Dy}(h:d.Valid):(dN d.m).length<=256:=by have:=h.len;omega
end Go.Proofs.YtdgnpeddgdclhaaGreatDoor
namespace Go.Proofs.YtdgnpeddgdclhaaGreatDoor.Fp
structure Iv where
 lo:Dy
 hi:Dy
 all:Bool
def dV:Iv:=⟨eW,eW,true⟩
def Iv.Valid(x:Iv):Prop:=(x.all=true/\x.lo=eW/\x.hi=eW)\/(x.all=false/\x.lo.Valid/\x.hi.Valid/\ew x.lo x.hi<=0)
theorem gZ:dV.Valid:=.inl ⟨rfl,rfl,rfl⟩
def gN(lo:Dy)(e:Int)(hi:Dy)(f:Int):Iv:=if e≠0\/f≠0 then dV else⟨lo,hi,false⟩
def rq(a b:Dy):Dy:=canon (a.neg != b.neg) (a.m*b.m) (a.e+b.e)
def nG(x:Iv):Iv:=if x.all then dV else⟨eD x.hi,eD x.lo,false⟩
def fp(x y:Iv)(p:Nat):Iv:=
 if x.all||y.all then dV else gN (ff (ep x.lo y.lo) p false) (fg (ep x.lo y.lo) p false) (ff (ep x.hi y.hi) p true) (fg (ep x.hi y.hi) p true)
def BN(x y:Iv)(p:Nat):Iv:=fp x (nG y) p
theorem Vb{x y:Int}:rN x y<=0↔x<=y:=by
 unfold rN;split
 .constructor<;>intro<;>omega
 .split<;>constructor<;>intro<;>omega
theorem le_iff{a b:Dy}{k:Int}(ha:mw a k)(hb:mw b k):ew a b<=0↔a.num k<=b.num k:=by rw[zK ha hb,Vb]
theorem le_trans{a b c:Dy}(h1:ew a b<=0)(h2:ew b c<=0):ew a c<=0:=by
 obtain⟨k,ka,kb,kc⟩:∃ k:Int,k<=a.e/\k<=b.e/\k<=c.e:=⟨min a.e (min b.e c.e), ae, ae, ae⟩
 rw[le_iff (.inr ka) (.inr kb)]at h1;rw[le_iff (.inr kb) (.inr kc)]at h2;rw[le_iff (.inr ka) (.inr kc)];omega
theorem uJ(a:Dy):ew a a<=0:=by rw[le_iff (k:=a.e) (.inr (bI _)) (.inr (bI _))];exact bI _
theorem aat(a b:Dy):ew a b<=0\/ew b a<=0:=by
 obtain⟨k,ka,kb⟩:∃ k:Int,k<=a.e/\k<=b.e:=⟨min a.e b.e, ae, ae⟩
 rw[le_iff (.inr ka) (.inr kb),le_iff (.inr kb) (.inr ka)];omega
theorem abj{a b:Dy}(h:ew a b<=0):ew (eD b) (eD a)<=0:=by
 obtain⟨k,ka,kb⟩:∃ k:Int,k<=a.e/\k<=b.e:=⟨min a.e b.e, ae, ae⟩
 rw[le_iff (.inr ka) (.inr kb)]at h;rw[le_iff (k:=k) (ER (.inr kb)) (ER (.inr ka)),Iw,Iw];omega
theorem aeS{a b c d:Dy}(h1:ew a b<=0)(h2:ew c d<=0):ew (ep a c) (ep b d)<=0:=by
 obtain⟨k,ka,kb,kc,kd⟩:∃ k:Int,k<=a.e/\k<=b.e/\k<=c.e/\k<=d.e:=⟨min (min a.e b.e) (min c.e d.e), ae, ae, ae, ae⟩
 rw[le_iff (.inr ka) (.inr kb)]at h1;rw[le_iff (.inr kc) (.inr kd)]at h2;rw[le_iff (k:=k) (Cc (.inr ka) (.inr kc)) (Cc (.inr kb) (.inr kd)),En (.inr ka) (.inr kc),En (.inr kb) (.inr kd)];omega
theorem Cz(m:Nat)(e:Int)(p:Nat):
 fT m e false p false*2^ey m e p<=m/\m<=fT m e false p true*2^ey m e p:=by
 have h:=bM m (2^ey m e p);have hr:=aS m (aJ (n:=ey m e p) ( ag :0<2));unfold fT;simp only[aT,false_and,aL,bd,false_or,true_and];rw[aQ];generalize m/2^ey m e p=q at *
 generalize 2^ey m e p=P at *
 refine⟨ ae,?_⟩;rw[aO,aQ q];split
 .omega
 .omega
theorem Fl{s:Bool}{m n:Nat}{e f K:Int}(h1:K<=e)(h2:K<=f)(h:m*2^(e-K).toNat<=n*2^(f-K).toNat):
 (s=false->ew (canon s m e) (canon s n f)<=0)/\(s=true->ew (canon s n f) (canon s m e)<=0):=by
 constructor
 .rintro rfl
  rw[le_iff (ue h1) (ue h2),Pr h1,Pr h2]
  exact_mod_cast h
 .rintro rfl
  rw[le_iff (ue h2) (ue h1),wI h1,wI h2];simp only[aW];omega
theorem Lg(neg:Bool)(m:Nat)(e:Int)(p:Nat)(up:Bool)(he:eU neg m e false p up=0)(_hp:1<=p):
 (up=true->ew (canon neg m e) (fi neg m e false p up)<=0)/\(up=false->ew (fi neg m e false p up) (canon neg m e)<=0):=by
 rw[zQ]at he;obtain⟨c1,c2⟩:=Cz m e p;have e1:(e-e).toNat=0:= ae ;have e2:(e+(ey m e p:Int)-e).toNat=ey m e p:= ae ;have hk:e<=e+(ey m e p:Int):= ae ;have A:=fun s:Bool=>Fl (s:=s) (m:=fT m e false p false) (n:=m) (e:=e+ey m e p) (f:=e) (K:=e) hk (bI _) (by rw[e1,e2];simpa using c1)
 have B:=fun s:Bool=>Fl (s:=s) (m:=m) (n:=fT m e false p true) (e:=e) (f:=e+ey m e p) (K:=e) (bI _) hk (by rw[e1,e2];simpa using c2)
 unfold fi;by_cases ho:gX m e false p (neg != up)=true
 .have hn:¬(neg != up)=true:=fun h=>he ⟨ho,h⟩
  rw[aC ho,aB hn];have Nd:neg=up:=by cases neg<;>cases up<;>simp at hn ⊢
  have iq:(neg != up)=false:=by rw[Nd];simp
  rw[iq]at ho;unfold gX at ho;simp only[aX,bF]at ho;obtain⟨o1,o2⟩:=ho;have hq:=oh o1;have C4:=jK o1;obtain⟨K,k1,k2⟩:∃ K:Int,K<=e/\K<=16384-p:=⟨min e (16384-p), ae, ae⟩
  have C:(2^p-1)*2^((16384:Int)-p-K).toNat<=m*2^(e-K).toNat:=by
   have h1:2^(dU (fT m e false p false)-1)*2^ey m e p<=m:=aI (a6 _ hq) c1;have h2:=a6 (2^(e-K).toNat) h1;rw[<-aH,<-aH]at h2;refine aI (a6 _ (cI _ _)) (aI ?_ h2);rw[<-aH];exact aR ag ae 
  have D:=Fl (s:=neg) k2 k1 C;subst Nd;cases neg
  .exact ⟨fun h=>absurd h ag,fun _=>D.1 rfl⟩
  .exact ⟨fun _=>D.2 rfl,fun h=>absurd h ag⟩
 .rw [aB ho]
  cases neg<;>cases up
  .exact ⟨fun h=>absurd h ag,fun _=>(A false).1 rfl⟩
  .exact ⟨fun _=>(B false).1 rfl,fun h=>absurd h ag⟩
  .exact ⟨fun h=>absurd h ag,fun _=>(B true).2 rfl⟩
  .exact ⟨fun _=>(A true).2 rfl,fun h=>absurd h ag⟩
theorem Qx{d:Dy}(hd:d.Canon)(p:Nat)(hp:1<=p):
 (fg d p true=0->ew d (ff d p true)<=0)/\(fg d p false=0->ew (ff d p false) d<=0):=by
 have h:=hd.xn;constructor
 .intro he
  have:=(Lg d.neg d.m d.e p true he hp).1 rfl;rwa[h]at this
 .intro he
  have:=(Lg d.neg d.m d.e p false he hp).2 rfl;rwa[h]at this
theorem nN{x y:Iv}(hx:x.Valid)(hy:y.Valid){p:Nat}(hp:1<=p)(dR:p<=4096):(fp x y p).Valid:=by
 unfold fp;rcases hx with⟨h,_⟩|⟨h1,h2,h3,h4⟩
 .rw [h];exact gZ
 .rcases hy with⟨h,_⟩|⟨k1,k2,k3,k4⟩
  .rw [h,h1];exact gZ
  .rw [h1,k1]
   simp only[Bool.or_self,aT,aL];unfold gN;by_cases he:fg (ep x.lo y.lo) p false≠0\/fg (ep x.hi y.hi) p true≠0
   .rw [aC he];exact gZ
   .rw [aB he]
    have e1:fg (ep x.lo y.lo) p false=0:= ae ;have e2:fg (ep x.hi y.hi) p true=0:= ae ;refine .inr ⟨rfl,nQ _ _ _ _ _ _ hp dR,nQ _ _ _ _ _ _ hp dR,?_⟩;exact le_trans ((Qx (vt h2.canon k2.canon) p hp).2 e1) (le_trans (aeS h4 k4) ((Qx (vt h3.canon k3.canon) p hp).1 e2))
theorem yL{x:Iv}(hx:x.Valid):(nG x).Valid:=by
 unfold nG;rcases hx with⟨h,_⟩|⟨h1,h2,h3,h4⟩
 .rw [aC h];exact gZ
 .rw [h1]
  exact .inr ⟨rfl,tA h3,tA h2,abj h4⟩
def minD(a b:Dy):Dy:=if ew b a<0 then b else a
def maxD(a b:Dy):Dy:=if 0<ew b a then b else a
theorem A9(a b:Dy):ew (minD a b) a<=0:=by
 unfold minD;split
 .omega
 .exact uJ a
theorem OJ(a b:Dy):ew (minD a b) b<=0:=by
 unfold minD;split
 .exact uJ b
 .rcases aat a b with h|h
  .exact h
  .have h0:ew b a=0:= ae 
   obtain⟨k,ka,kb⟩:∃ k:Int,k<=a.e/\k<=b.e:=⟨min a.e b.e, ae, ae⟩
   rw[zK (k:=k) (.inr kb) (.inr ka)]at h0;rw[le_iff (.inr ka) (.inr kb)];unfold rN at h0;split at h0
   .omega
   .split at h0<;>omega
theorem zL(a b:Dy):ew a b = -ew b a:=by
 obtain⟨k,ka,kb⟩:∃ k:Int,k<=a.e/\k<=b.e:=⟨min a.e b.e, ae, ae⟩
 rw[zK (k:=k) (.inr ka) (.inr kb),zK (k:=k) (.inr kb) (.inr ka)];unfold rN;split<;>split<;>(try split)<;>omega
theorem yH(a b:Dy):ew a (maxD a b)<=0:=by
 unfold maxD;split
 .rw [zL];omega
 .exact uJ a
theorem OI(a b:Dy):ew b (maxD a b)<=0:=by
 unfold maxD;split
 .exact uJ b
 .omega
theorem rn{a b:Dy}(ha:a.Valid)(hb:b.Valid):(minD a b).Valid:=by unfold minD;split;exact hb;exact ha
theorem ph{a b:Dy}(ha:a.Valid)(hb:b.Valid):(maxD a b).Valid:=by unfold maxD;split;exact hb;exact ha
def ku(D : Dy->Dy->Bool->Dy)(E : Dy->Dy->Bool->Int)(x y : Iv) : Iv:=
 if(E x.lo y.lo false=0/\E x.lo y.lo true=0)/\(E x.lo y.hi false=0/\E x.lo y.hi true=0)/\(E x.hi y.lo false=0/\E x.hi y.lo true=0)/\(E x.hi y.hi false=0/\E x.hi y.hi true=0)then
  ⟨minD (minD (minD (D x.lo y.lo false) (D x.lo y.hi false)) (D x.hi y.lo false)) (D x.hi y.hi false),
   maxD (maxD (maxD (D x.lo y.lo true) (D x.lo y.hi true)) (D x.hi y.lo true)) (D x.hi y.hi true), false⟩
 else dV
theorem L6{D:Dy->Dy->Bool->Dy}{E:Dy->Dy->Bool->Int}{x y:Iv}(hv:∀ a b up,(D a b up).Valid)
 (hle:E x.lo y.lo false=0->E x.lo y.lo true=0->ew (D x.lo y.lo false) (D x.lo y.lo true)<=0):(ku D E x y).Valid:=by
 unfold ku;split
 .rename_i h
  refine .inr ⟨rfl,rn (rn (rn (hv _ _ _) (hv _ _ _)) (hv _ _ _)) (hv _ _ _),ph (ph (ph (hv _ _ _) (hv _ _ _)) (hv _ _ _)) (hv _ _ _),?_⟩;refine le_trans (A9 _ _) (le_trans (A9 _ _) (le_trans (A9 _ _) (le_trans (hle h.1.1 h.1.2) ?_)));exact le_trans (yH _ _) (le_trans (yH _ _) (yH _ _))
 .exact gZ
def e9(x y:Iv)(p:Nat):Iv:=
 if x.all||y.all then dV else ku (fun a b up=>ff (rq a b) p up) (fun a b up=>fg (rq a b) p up) x y
theorem nF(x y:Iv){p:Nat}(hp:1<=p)(dR:p<=4096):(e9 x y p).Valid:=by
 unfold e9;split
 .exact gZ
 .exact L6 (fun _ _ _=>nQ _ _ _ _ _ _ hp dR) (fun h1 h2=>Le _ _ _ _ _ h1 h2)
def gw(a b:Dy)(p:Nat)(g:Nat):Nat:=p+g+dU b.m-dU a.m
def kz(a b:Dy)(p:Nat)(up:Bool):Dy:=
 if a.m=0 then eW else fi (a.neg != b.neg) (a.m*2^gw a b p 2/b.m) (a.e-b.e-gw a b p 2) (decide (a.m*2^gw a b p 2%b.m≠0)) p up
def mh(a b:Dy)(p:Nat)(up:Bool):Int:=
 if a.m=0 then 0 else eU (a.neg != b.neg) (a.m*2^gw a b p 2/b.m) (a.e-b.e-gw a b p 2) (decide (a.m*2^gw a b p 2%b.m≠0)) p up
theorem Fy{a b:Dy}(a0:a.m≠0)(b0:b.m≠0)(p g:Nat)(hg:2<=g):p<dU (a.m*2^gw a b p g/b.m):=by
 have h1:=oh a0;have h2:=mE b.m;have ha:=jK a0;have h3:2^p<=a.m*2^gw a b p g/b.m:=by
  rw[ct ae];refine aI (bN _ (cJ h2)) (aI ?_ (a6 _ h1));rw[<-aH,<-aH];exact aR ag (by unfold gw;omega)
 exact pM.2 h3
theorem Vz{a b:Dy}(a0:a.m≠0)(b0:b.m≠0)(p:Nat)(up:Bool):
 fi (a.neg != b.neg) (a.m*2^gw a b p 3/b.m) (a.e-gw a b p 3-b.e) (decide (a.m*2^gw a b p 3%b.m≠0)) p up=kz a b p up /\
 eU (a.neg != b.neg) (a.m*2^gw a b p 3/b.m) (a.e-gw a b p 3-b.e) (decide (a.m*2^gw a b p 3%b.m≠0)) p up=mh a b p up:=by
 obtain⟨d,hd⟩:∃ d,gw a b p 3=gw a b p 2+d:=⟨gw a b p 3-gw a b p 2,by unfold gw;omega⟩
 have hb:=Fy a0 b0 p 2 ag;unfold kz mh;rw[aB a0,aB a0,hd];generalize gw a b p 2=k at *
 have hB:0<b.m:= ae ;have hP:=aJ (n:=d) ( ag :0<2);have e1:a.m*2^(k+d)/b.m/2^d=a.m*2^k/b.m:=by
  rw[bY,aH,<-aP,Nat.mul_div_mul_right _ _ hP]
 have e2:(decide (a.m*2^(k+d)%b.m≠0)||decide (a.m*2^(k+d)/b.m%2^d≠0))=decide (a.m*2^k%b.m≠0):=by
  have h1:a.m*2^(k+d)%(b.m*2^d)=a.m*2^k%b.m*2^d:=by rw[aH,<-aP,Nat.mul_mod_mul_right]
  have h2:a.m*2^(k+d)%(b.m*2^d)=a.m*2^(k+d)%b.m+b.m*(a.m*2^(k+d)/b.m%2^d):=Nat.mod_mul;rw[h1]at h2;rw[c9];simp only[ag5,bF];constructor
  .intro h h0
   rw[h0,bS]at h2;rcases h with h|h
   .omega
   .have:=Nat.mul_pos hB (cY h)
    omega
  .intro h
   apply bh;intro hn;have n1:a.m*2^(k+d)%b.m=0:=by
    apply bh;intro h';exact hn (.inl h')
   have n2:a.m*2^(k+d)/b.m%2^d=0:=by
    apply bh;intro h';exact hn (.inr h')
   rw[n1,n2,bQ]at h2;have:=Nat.mul_pos (cY h) hP;omega
 have h:=Cy (N:=a.m*2^(k+d)/b.m) (E:=a.e-((k+d:Nat):Int)-b.e) (more:=decide (a.m*2^(k+d)%b.m≠0)) (d:=d) (p:=p) (a.neg != b.neg) up (by rw[e1];exact hb);rw[e1,e2,show a.e-((k+d:Nat):Int)-b.e+(d:Int)=a.e-b.e-(k:Int)by omega]at h;exact⟨h.1.symm,h.2.symm⟩
def jc(x:Iv):Int:=if x.all then 0 else if 0<x.lo.sign then 1 else if x.hi.sign<0 then -1 else 0
def gj(x y:Iv)(p:Nat):Iv:=
 if x.all||y.all||decide (jc y=0)then dV else ku (fun a b up=>kz a b p up) (fun a b up=>mh a b p up) x y
theorem qU(x y:Iv){p:Nat}(hp:1<=p)(dR:p<=4096):(gj x y p).Valid:=by
 unfold gj;split
 .exact gZ
 .refine L6 (fun a b up=>?_) (fun h1 h2=>?_)
  .unfold kz;split
   .exact oO
   .exact nQ _ _ _ _ _ _ hp dR
  .unfold kz mh at *
   split
   .exact uJ _
   .rename_i h
    rw[aB h]at h1 h2;exact Le _ _ _ _ _ h1 h2
def ij(d:Dy):Dy:=⟨false,d.m,d.e⟩
theorem sG{d:Dy}(h:d.Valid):(ij d).Valid:=by
 refine⟨?_,h.range⟩;rcases h.canon with⟨h1,_,h3⟩|h1
 .exact .inl ⟨h1,rfl,h3⟩
 .exact .inr h1
theorem Su(d:Dy)(k:Int):(ij d).num k=(d.fm k:Int):=by unfold Dy.num ij Dy.fm;simp
def iY(x:Iv):Dy:=maxD (ij x.lo) (ij x.hi)
def j9(x:Iv):Dy:=if jc x=0 then eW else minD (ij x.lo) (ij x.hi)
def fz(x:Iv):Iv:=if x.all then dV else⟨j9 x,iY x,false⟩
def gi(d:Dy):Iv:=⟨d,d,false⟩
theorem pP{d:Dy}(h:d.Valid):(gi d).Valid:=.inr ⟨rfl,h,h,uJ d⟩
theorem DK{x:Iv}(h1:x.lo.Valid)(h2:x.hi.Valid):(iY x).Valid:=ph (sG h1) (sG h2)
theorem zw{x:Iv}(h:x.Valid):(fz x).Valid:=by
 unfold fz;rcases h with⟨h,_⟩|⟨h,h1,h2,_⟩
 .rw [h];exact gZ
 .rw [h]
  have v1:=sG h1;have v2:=sG h2;refine .inr ⟨rfl,?_,DK h1 h2,?_⟩
  .show (j9 x).Valid
   unfold j9;split
   .exact oO
   .exact rn v1 v2
  .show ew (j9 x) (iY x)<=0
   unfold j9;split
   .refine le_trans (b:=ij x.lo) ?_ (yH _ _)
    rw[le_iff (a:=eW) (b:=ij x.lo) (k:=x.lo.e) (.inl rfl) (.inr (bI _)),qE rfl,Su];omega
   .exact le_trans (A9 _ _) (yH _ _)
def er(n:Int):Dy:=gp n 0
def eO(n:Int):Iv:=gi (er n)
def oY:Iv:=gi (canon false 1 (-1))
end Go.Proofs.YtdgnpeddgdclhaaGreatDoor.Fp
namespace Go.Proofs.YtdgnpeddgdclhaaGreatDoor
open Go.RowKit Fp Pu
def ev(x:Iv):List E:=[bP x.lo.neg,dO (dN x.lo.m),iP x.lo.e,bP x.hi.neg,dO (dN x.hi.m),iP x.hi.e,bP x.all]
def dQ(x:Iv):E:=.agg (ev x)
def dY(l:List Iv):E:=.sl true l.length 7 fun i j=>(ev (l.getD i dV)).getD j .any
def mF(m:List (List Iv)):E:=.sl true m.length 1 fun i _=>dY (m.getD i [])
def sj(x y:Iv):Bool:=y.all||(!x.all&&(decide (ew y.lo x.lo<=0)&&decide (ew x.hi y.hi<=0)))
theorem yM:E.le (.v (.slice none 0 0)) (dO (dN 0)):=by
 have:dO (dN 0) = .sl false 0 1 fun i _=>.v (.int .u32 (((dN 0).getD i 0:Nat):Int)):=by unfold dO;rw[j8];rfl
 rw[this];exact .nil _ _ _
theorem EG:E.le (.agg [bP false,.v (.slice none 0 0),iP 0,bP false,.v (.slice none 0 0),iP 0,bP true]) (dQ dV):=
 .agg (.cons (.refl _) (.cons yM (.cons (.refl _) (.cons (.refl _) (.cons yM (.cons (.refl _) (.cons (.refl _) .nil)))))))
open Go.RowKit Fp Pu
structure RD where
 neg:Bool
 L:List Nat
 e:Int
structure RI where
 lo:RD
 hi:RD
 all:Bool
def IZ(d:RD):List E:=[bP d.neg,dO d.L,iP d.e]
def jk(d:RD):E:=.agg (IZ d)
def tK(x:RI):List E:=[bP x.lo.neg,dO x.lo.L,iP x.lo.e,bP x.hi.neg,dO x.hi.L,iP x.hi.e,bP x.all]
def rz(x:RI):E:=.agg (tK x)
def yZ:RD:=⟨false,[],0⟩
def gQ:RI:=⟨yZ,yZ,true⟩
def gO(l:List RI):E:=.sl true l.length 7 fun i j=>(tK (l.getD i gQ)).getD j .any
structure RD.Good(d:RD):Prop where
 ok:ej d.L
 lo:-9223372036854775808<=d.e
 hi:d.e<=9223372036854775807
structure RI.Good(x:RI):Prop where
 lo:x.lo.Good
 hi:x.hi.Good
theorem QK:yZ.Good:=⟨ej.nil, ag, ag⟩
theorem QJ:gQ.Good:=⟨QK,QK⟩
def RD.dy(d:RD):Dy:=⟨d.neg,val d.L,d.e⟩
def RD.Ok(d:RD):Prop:=kr d.neg d.L d.e
def RD.Zero(d:RD):Prop:=d.neg=false/\d.L=[]/\d.e=0
def RI.iv(x:RI):Iv:=⟨x.lo.dy,x.hi.dy,x.all⟩
def RI.Ok(x:RI):Prop:=(x.all=true/\x.lo.Zero/\x.hi.Zero)\/(x.all=false/\x.lo.Ok/\x.hi.Ok/\ew x.lo.dy x.hi.dy<=0)
def Fp.Dy.raw(d:Dy):RD:=⟨d.neg,dN d.m,d.e⟩
def Fp.Iv.raw(x:Iv):RI:=⟨x.lo.raw,x.hi.raw,x.all⟩
theorem RD.Ok.valid{d:RD}(h:d.Ok):d.dy.Valid:=h.2.2
theorem RD.Ok.eq{d:RD}(h:d.Ok)(g:d.Good):d.dy.raw=d:=by
 obtain⟨n,L,e⟩:=d;show RD.mk n (dN (val L)) e=_;rw[<-kr.Aa h g.ok]
theorem RD.Zero.eq{d:RD}(h:d.Zero):d.dy=eW/\d.dy.raw=d:=by
 obtain⟨n,L,e⟩:=d;obtain⟨rfl,rfl,rfl⟩:=h;refine⟨rfl,?_⟩;show RD.mk false (dN 0) 0=_;rw[j8]
theorem RI.Ok.valid{x:RI}(h:x.Ok):x.iv.Valid:=by
 rcases h with⟨h1,h2,h3⟩|⟨h1,h2,h3,h4⟩
 .exact .inl ⟨h1,h2.eq.1,h3.eq.1⟩
 .exact .inr ⟨h1,h2.valid,h3.valid,h4⟩
theorem RI.Ok.eq{x:RI}(h:x.Ok)(g:x.Good):x.iv.raw=x:=by
 obtain⟨lo,hi,a⟩:=x;rcases h with⟨h1,h2,h3⟩|⟨h1,h2,h3,h4⟩
 .show RI.mk lo.dy.raw hi.dy.raw a=_
  rw[h2.eq.2,h3.eq.2]
 .show RI.mk lo.dy.raw hi.dy.raw a=_
  rw[h2.eq g.lo,h3.eq g.hi]
theorem Fp.Dy.acN(d:Dy):d.raw.dy=d:=by show Dy.mk d.neg (val (dN d.m)) d.e=d;rw[eV]
theorem FA(d:Dy):jk d.raw=dP d:=rfl
theorem Hr(x:Iv):rz x.raw=dQ x:=rfl
theorem Fp.Iv.Valid.ends{x:Iv}(h:x.Valid):x.lo.Valid/\x.hi.Valid:=by
 rcases h with⟨_,h2,h3⟩|⟨_,h2,h3,_⟩
 .rw [h2,h3];exact⟨oO,oO⟩
 .exact ⟨h2,h3⟩
theorem afU:dV.raw=gQ:=by
 show RI.mk eW.raw eW.raw true=RI.mk yZ yZ true;have:eW.raw=yZ:=by show RD.mk false (dN 0) 0=_;rw[j8];rfl
 rw[this]
def uV(l:List Iv):List RI:=l.map Iv.raw
theorem W6(l:List Iv)(i:Nat):(uV l).getD i gQ=(l.getD i dV).raw:=by
 unfold uV;rw[aF,aF,bL];cases l[i]? with
 | none=>exact afU.symm
 | some x=>rfl
theorem Hu(l:List Iv):gO (uV l)=dY l:=by
 unfold gO dY;rw[show(uV l).length=l.length by simp[uV]];congr 1;funext i j;rw[W6];rfl
theorem vC(d:RD)(g:d.Good)(b:Bool)(hb:b=true↔d.Ok):dM 68 [jk d] (bP b):=by
 refine⟨Tryz.call68,fun w B vs hK hB hr=>?_⟩;obtain⟨v1,vs,rfl,h1,hr⟩:=hr.iw;obtain rfl:=hr.lV;obtain⟨us,rfl,q⟩:=eo.xh (show eo _ _ w (.agg _) v1 from h1);obtain⟨u1,us,rfl,k1,q⟩:=q.iw;obtain⟨u2,us,rfl,k2,q⟩:=q.iw;obtain⟨u3,us,rfl,k3,q⟩:=q.iw;obtain rfl:=q.lV;obtain rfl:=eo.gn k1;obtain rfl:=eo.gn k3;obtain⟨A,c,rfl,hs⟩:=qJ g.ok k2;exact(vD d.neg A c d.L d.e w b hs g.lo g.hi hb).mono fun e w' h=>rv B w e w' hB h
theorem adq(d:RD)(g:d.Good)(b:Bool)(hb:b=true↔d.Ok):dM 46 [jk d] (bP b):=by
 refine⟨Tryz.call46,fun w B vs hK hB hr=>?_⟩;obtain⟨v1,vs,rfl,h1,hr⟩:=hr.iw;obtain rfl:=hr.lV;obtain⟨us,rfl,q⟩:=eo.xh (show eo _ _ w (.agg _) v1 from h1);obtain⟨u1,us,rfl,k1,q⟩:=q.iw;obtain⟨u2,us,rfl,k2,q⟩:=q.iw;obtain⟨u3,us,rfl,k3,q⟩:=q.iw;obtain rfl:=q.lV;obtain rfl:=eo.gn k1;obtain rfl:=eo.gn k3;obtain⟨A,c,rfl,hs⟩:=qJ g.ok k2;exact(D6 d.neg A c d.L d.e w b hs g.lo g.hi hb).mono fun e w' h=>rv B w e w' hB h
theorem agw{a b:Nat}(h:a≠b):((a:Int) != (b:Int))=true:= av 
theorem wG{a b:Nat}(h:a=b):((a:Int) != (b:Int))=false:=by simp[h]
theorem Bi{a b:Nat}(h:a=b):((a:Int)==(b:Int))=true:=by simp[h]
theorem O6{a b:Nat}(h:a≠b):((a:Int)==(b:Int))=false:= av 
open Classical in
noncomputable def okB(x:RI):Bool:=decide x.Ok
theorem tD{x:RI}:okB x=true↔x.Ok:=by unfold okB;simp
open Classical in
open Go.ChangeShapes Go.WideShapes Go.ChangeAt Go.RowKit Fp Pu
abbrev ja:Nat->Prop:=fun _=>False
theorem U1{W:World}{a:Addr}{v:Value}(h:W.cell? a=some v):a.spot=none:=by
 obtain⟨b,o,s⟩:=a;rcases s with _|q
 .rfl
 .exfalso
  unfold World.cell? at h;split at h<;>simp at h
theorem I6{W:World}{a:Addr}{len cap sz:Nat}{nl:Bool}(el:Nat->Nat->E)(hl:len<=cap)(hm:cap<=maxLen)(ie:0<sz)
 (h1:∀ i j,i<len->j<sz->(el i j).one=true/\(nl=true->(el i j).jj=true)/\(el i j).nr 2=true)
 (hx:∀ i,i<len->∃ cs,W.cells? 0 (a.add (i*sz)) sz=some cs/\∀ j,j<sz->∃ v,cs[j]? = some v/\eo ja ja W (el i j) v):
 eo ja ja W (.sl nl len sz el) (.slice (some a) len cap):=by
 have Na:cap<=9223372036854775807:=by simpa[maxLen]using hm
 have cellAt:∀ i j,i<len->j<sz->∃ v,W.cell? (a.add (i*sz+j))=some v/\eo ja ja W (el i j) v:=by
  intro i j hi hj;obtain⟨cs,h2,h3⟩:=hx i hi;obtain⟨v,h4,h5⟩:=h3 j hj;refine⟨v,?_,h5⟩;rw[<-Deep.add_add,(World.cells?_some h2).2.2 j hj,h4]
 by_cases h0:len=0
 .subst h0
  exact .sl nl 0 sz el _ cap (fun _ _=>.bool false) ae Na (fun h=>by cases h) (fun i j hi=>absurd hi ae) (fun i j hi=>absurd hi ae) (fun i j hi=>absurd hi ae) (fun i j hi=>absurd hi ae)
 .obtain ⟨b,o,s⟩:=a
  have hs:s=none:=by
   obtain⟨v,h2,_⟩:=cellAt 0 0 ae ie;rw[bS,bK,show(⟨b,o,s⟩:Addr).add 0=⟨b,o,s⟩from rfl]at h2;exact U1 h2
  subst hs;have cell2:∀ i j,∃ v:Value,i<len->j<sz->W.cell? ⟨b,o+(i*sz+j),none⟩=some v/\eo ja ja W (el i j) v:=by
   intro i j;by_cases hi:i<len
   .by_cases hj:j<sz
    .obtain ⟨v,h2,h3⟩:=cellAt i j hi hj
     rw[vh]at h2;exact⟨v,fun _ _=>⟨h2,h3⟩⟩
    .exact ⟨.bool false,fun _ h=>absurd h hj⟩
   .exact ⟨.bool false,fun h=>absurd h hi⟩
  let f:Nat->Nat->Value:=fun i j=>Classical.choose (cell2 i j)
  have hf:∀ i j,i<len->j<sz->W.cell? ⟨b,o+(i*sz+j),none⟩=some (f i j)/\eo ja ja W (el i j) (f i j):=fun i j=>cg (cell2 i j)
  refine .sl nl len sz el _ cap f hl Na (fun h=>by cases h) (fun i j hi hj=>?_) (fun i j hi hj=>(h1 i j hi hj).2.2) (fun i j hi hj=>?_) (fun i j hi hj=>(hf i j hi hj).2)
  .exact ⟨(hf i j hi hj).2.one (h1 i j hi hj).1,fun q=>(hf i j hi hj).2.jj ((h1 i j hi hj).2.1 q)⟩
  .exact ⟨b,o,rfl,id,block_lt_of_cell (hf i j hi hj).1,(hf i j hi hj).1⟩
def JQ(W:World)(d:RD)(cs:List Value):Prop:=d.Good/\cs.length=3/\∀ j,j<3->∃ v,cs[j]? = some v/\eo ja ja W ((IZ d).getD j .any) v
def EJ(W:World)(x:RI)(cs:List Value):Prop:=x.Good/\cs.length=7/\∀ j,j<7->∃ v,cs[j]? = some v/\eo ja ja W ((tK x).getD j .any) v
section
variable {H:Type} {enc:TypeId×Value->H} {W:World} {fuel:Nat} {cs:List Value} {x:DataW H×List MemPlace}
theorem IC(h:DataW.trod enc Tryz.prog W 0 (fun _=>true) true fuel 31 cs=some x)(ek:∀ p ∈ x.2,p.block<W.heap.size):∃ d,JQ W d cs:=by
 obtain⟨s,A,L,cap,e,rfl,qv,h1,h2⟩:=abw h ek;refine⟨⟨s,L,e⟩,⟨qv.ok,h1,h2⟩,rfl,fun j hj=>?_⟩;rcases j with _|_|_|j
 .exact ⟨_,rfl,.v _⟩
 .exact ⟨_,rfl,u5 (w:=W) (fun _ h=>h.elim) (.refl _) qv⟩
 .exact ⟨_,rfl,.v _⟩
 .omega
theorem abz(h:DataW.trod enc Tryz.prog W 0 (fun _=>true) true fuel 41 cs=some x)(ek:∀ p ∈ x.2,p.block<W.heap.size):∃ d,EJ W d cs:=by
 obtain⟨xs,n,rfl,rfl,hl,iA,hf⟩:=DataW.trod_struct Tryz.underlying41 h;have hC:Tryz.prog.cellsOf 41=7:= ah ;have hD:Tryz.prog.cellsOf 31=3:= ah ;have hB:Tryz.prog.cellsOf 4=1:= ah ;rw[hC]at hl;obtain⟨c0,c1,c2,c3,c4,c5,c6,rfl⟩:=aaI hl;have h0:=hf 0 _ rfl;have h1:=hf 1 _ rfl;have h2:=hf 2 _ rfl;simp only[agE,agF,dk]at h0 h1 h2;simp only[hD,hB,agG,agH,dE,agI]at h0 h1 h2;rw[aM (by rw[iA];decide)]at h0 h1 h2;obtain⟨lo,g1,_,k1⟩:=IC h0 (fun p hp=>ek p (agJ.2 ⟨_,bR _,hp⟩));obtain⟨hi,g2,_,k2⟩:=IC h1 (fun p hp=>ek p (agJ.2 ⟨_,bR _,hp⟩));obtain⟨al,e2,_⟩:=DataW.trod_bool Tryz.underlying4 h2;simp at e2;subst e2;refine⟨⟨lo,hi,al⟩,⟨g1,g2⟩,rfl,fun j hj=>?_⟩;rcases j with _|_|_|_|_|_|_|j
 .exact k1 0 ag 
 .exact k1 1 ag 
 .exact k1 2 ag 
 .exact k2 0 ag 
 .exact k2 1 ag 
 .exact k2 2 ag 
 .exact ⟨_,rfl,.v _⟩
 .omega
theorem adD(x:RI)(j:Nat)(hj:j<7):((tK x).getD j .any).one=true/\(((tK x).getD j .any).jj=true)/\((tK x).getD j .any).nr 2=true:=by
 rcases j with _|_|_|_|_|_|_|j
 all_goals first|exact⟨rfl,rfl,rfl⟩|omega
theorem ID(h:DataW.trod enc Tryz.prog W 0 (fun _=>true) true fuel 26 cs=some x)(ek:∀ p ∈ x.2,p.block<W.heap.size):
  ∃ l v,cs=[v]/\(∀ y,y ∈ l->y.Good)/\eo ja ja W (gO l) v:=by
 have hC:Tryz.prog.cellsOf 41=7:= ah ;rcases Deep.open_slice Tryz.underlying26 h with⟨rfl,_⟩|⟨a,len,cap,m,n,D,Pl,rfl,hb,hl,hm,nV,rfl,hx⟩
 .exact ⟨[],_,rfl,(fun y hy=>by cases hy),.sl true 0 7 _ none 0 (fun _ _=>.bool false) (aG _) ag (fun _=>rfl) (fun i j hi=>absurd hi (aV i)) (fun i j hi=>absurd hi (aV i)) (fun i j hi=>absurd hi (aV i)) (fun i j hi=>absurd hi (aV i))⟩
 .simp only[aW]at nV
  subst nV;have ex:∀ i,∃ y:RI,i<len->∃ cs',W.cells? 0 (a.add (i*7)) 7=some cs'/\EJ W y cs':=by
   intro i;by_cases hi:i<len
   .obtain ⟨cs',h1,h2⟩:=hx i ae 
    rw[hC]at h1;obtain⟨y,hy⟩:=abz h2 (fun p hp=>ek p (List.mem_append_right _ (agJ.2 ⟨i,bt.2 ae,hp⟩)));exact⟨y,fun _=>⟨cs',h1,hy⟩⟩
   .exact ⟨gQ,fun h=>absurd h hi⟩
  let X:Nat->RI:=fun i=>Classical.choose (ex i)
  have hX:∀ i,i<len->∃ cs',W.cells? 0 (a.add (i*7)) 7=some cs'/\EJ W (X i) cs':=fun i=>cg (ex i)
  have hlen:((List.range len).map X).length=len:= aj ;refine⟨(List.range len).map X,_,rfl,?_,?_⟩
  .intro y hy
   obtain⟨i,hi,rfl⟩:=cB.1 hy;obtain⟨cs',_,h2⟩:=hX i (bt.1 hi);exact h2.1
  .have Aq:∀ i,i<len->((List.range len).map X).getD i gQ=X i:=by
    intro i hi;rw[aF,bL,List.getElem?_range hi];rfl
   have:=I6 (W:=W) (a:=a) (len:=len) (cap:=m) (nl:=true) (fun i j=>(tK (((List.range len).map X).getD i gQ)).getD j .any) hl hm (show 0<7 by decide)
    (fun i j _ hj=>let⟨h1,h2,h3⟩:=adD (((List.range len).map X).getD i gQ) j hj;⟨h1,fun _=>h2,h3⟩)
    (fun i hi=>by
     obtain⟨cs',h1,h2,_,h3⟩:=hX i hi;exact⟨cs',h1,fun j hj=>by rw[Aq i hi];exact h3 j hj⟩)
   unfold gO;rw[hlen];exact this
end
open Go.ChangeShapes Go.WideShapes Go.ChangeAt Go.RowKit Fp Pu
theorem Xz{P:Program}{c:OpenClaim}(h:P.funcs.any Func.goes=false)(hs:c.start = .entering):false=c.goesBy P:=by
 have h1:∀ g:Nat,(P.funcs[g]?).any Func.goes=false:=by
  intro g;cases hg:P.funcs[g]? with
  | none=>rfl
  | some fn=>
   rw[Option.any_some];rw[Array.any_eq_false]at h;obtain⟨hl,he⟩:=cr.1 hg;have:=h g hl;rw[he]at this;simpa using this
 have h2:∀ f,P.goes f=false:=by
  intro f;unfold Program.goes;rw[h,Bool.and_false,Bool.or_false,dv];intro g _;rw[h1 g];decide
 unfold OpenClaim.goesBy Program.goesAt Program.goesFrom;rw[hs];cases P.funcNamed c.func with
 | none=>rfl
 | some f=>simp[h2 f]
theorem WQ:Tryz.pinned.checked.prog.funcs.any Func.goes=false:= ah 
def DB(k:IntKind)(l:List Int):E:=.sl true l.length 1 fun i _=>.v (.int k (l.getD i 0))
theorem RZ{k:IntKind}{z:Int}(h:(Lit.int k z).wf=true):gI k z:=by
 cases k<;>(simp[Lit.wf,IntKind.min,IntKind.max,IntKind.signed,IntKind.bits]at h;simp only[gI];omega)
theorem Pz{H:Type}{enc:TypeId×Value->H}{W:World}{fuel:Nat}{cs:List Value}{x:DataW H×List MemPlace}{t e:TypeId}{k:IntKind}(hk:∀ z,nY (.int k z)=false)(ht:Tryz.prog.underlying t=some (.slice e))(he:Tryz.prog.underlying e=some (.int k))(hC:Tryz.prog.cellsOf e=1)
  (h:DataW.trod enc Tryz.prog W 0 (fun _=>true) true fuel t cs=some x):∃ l v,cs=[v]/\(∀ z,z ∈ l->gI k z)/\eo ja ja W (DB k l) v:=by
 rcases Deep.open_slice ht h with⟨rfl,_⟩|⟨a,len,cap,m,n,D,Pl,rfl,hb,hl,hm,nV,rfl,hx⟩
 .exact ⟨[],_,rfl,(fun y hy=>by cases hy),.sl true 0 1 _ none 0 (fun _ _=>.bool false) (aG _) ag (fun _=>rfl) (fun i j hi=>absurd hi (aV i)) (fun i j hi=>absurd hi (aV i)) (fun i j hi=>absurd hi (aV i)) (fun i j hi=>absurd hi (aV i))⟩
 .simp only[aW]at nV
  subst nV;have ex:∀ i,∃ z:Int,i<len->W.cells? 0 (a.add (i*1)) 1=some [.int k z]/\gI k z:=by
   intro i;by_cases hi:i<len
   .obtain ⟨cs',h1,h2⟩:=hx i ae 
    rw[hC]at h1;obtain⟨z,hz,_,hw⟩:=DataW.trod_int he h2;subst hz;exact⟨z,fun _=>⟨h1,RZ hw⟩⟩
   .exact ⟨0,fun h=>absurd h hi⟩
  let X:Nat->Int:=fun i=>Classical.choose (ex i)
  have hX:∀ i,i<len->W.cells? 0 (a.add (i*1)) 1=some [.int k (X i)]/\gI k (X i):=fun i=>cg (ex i)
  have hlen:((List.range len).map X).length=len:= aj ;refine⟨(List.range len).map X,_,rfl,?_,?_⟩
  .intro r hr
   obtain⟨i,hi,rfl⟩:=cB.1 hr;exact(hX i (bt.1 hi)).2
  .have Aq:∀ i,i<len->((List.range len).map X).getD i 0=X i:=by
    intro i hi;rw[aF,bL,List.getElem?_range hi];rfl
   have:=I6 (W:=W) (a:=a) (len:=len) (cap:=m) (nl:=true) (fun i _=>.v (.int k (((List.range len).map X).getD i 0))) hl hm (show 0<1 by decide)
    (fun i j _ hj=>⟨rfl,fun _=>by show(!nY _)=true;rw[hk];rfl,rfl⟩)
    (fun i hi=>by
     refine⟨[.int k (X i)],(hX i hi).1,fun j hj=>?_⟩;obtain rfl:j=0:= ae ;exact⟨_,rfl,by rw[Aq i hi];exact .v _⟩)
   unfold DB;rw[hlen];exact this
end Go.Proofs.YtdgnpeddgdclhaaGreatDoor
namespace Go.Proofs.YtdgnpeddgdclhaaGreatDoor.Pu
open Go.RowKit
inductive R where
 | nil
 | bad
 | a (p:Prop) (r:R)
 | w (p:Prop) (r1:p->R) (r2:¬p->R)
def R.ok:R->Prop
 | .nil=>True
 | .bad=>False
 | .a p r=>p/\r.ok
 | .w p r1 r2=>(∀ h:p,(r1 h).ok)/\(∀ h:¬p,(r2 h).ok)
inductive Tr(P:Program)(K:World->Prop) where
 | nil
 | c {f:FuncId} {args:List E} {fu:E} (h:PC P K f args fu) (t:Tr P K)
 | cf {f:FuncId} {args:List E} {fu:E} (h:vg P K f args fu) (t:Tr P K)
 | cn {f:FuncId} {args:List E} {nl:Bool} {T:TypeId} {n sz:Nat} {el:Nat->Nat->E} (h:pZ P K f args nl T n sz el) (t:Tr P K)
 | g {op:BinOp} {ty:TypeId} {x y:E} {v:Value} (h:mX P op ty x y v) (t:Tr P K)
 | o (d:Nat) {p q:PV} (h:PV.le p q) (t:Tr P K)
 | bo (t:Tr P K)
 | a {p:Prop} (h:p) (t:Tr P K)
 | w (p:Prop) (t1:p->Tr P K) (t2:¬p->Tr P K)
 | s {c:Code} {σ τ:PS} {e:Ex} (h:Sp P K c σ (fun e' τ'=>e'=e/\τ'=τ)) (l t:Tr P K)
 | j (c:Nat) (τ:PS) (tj t:Tr P K)
 | v (d:Nat) {p q:PV} (h:PV.le p q) (t:Tr P K)
 | b (d:Nat) {p q:Bx} (h:Bx.le p q) (t:Tr P K)
 | z (id:Nat) (t:Tr P K)
 | y (s id:Nat) (nl:Bool) (T:TypeId) (sz:Nat) (el:Nat->Nat->E) (t:Tr P K)
 | e (t:Tr P K)
 | k (ts bs:List Nat) (t:Tr P K)
 | u (n:Nat) (t:Tr P K)
 | x (h:False)
 | r {p q:E} (h:E.le p q)
 | rb {p q:Bx} (h:Bx.le p q)
section
variable {P:Program} {K:World->Prop}
def zf:List (Nat×PV)->Tr P K->(Tr P K->R)->R
 | [],t,k=>k t
 | (d,q)::l,t,k=>match t with
  | .o d' (p:=p) (q:=q') _ t'=>if Nat.beq d' d then .a (PV.le p q') (zf l t' k)else .a (PV.le q q) (zf l t k)
  | t=>.a (PV.le q q) (zf l t k)
def xk:List (Nat×Bx)->Tr P K->R->R
 | [],_,r=>r
 | (d,q)::l,t,r=>match t with
  | .b d' (p:=p) (q:=q') _ t'=>if Nat.beq d' d then .a (Bx.le p q') (xk l t' r)else .a (Bx.le q q) (xk l t r)
  | t=>.a (Bx.le q q) (xk l t r)
def y8(σ:PS)(t:Tr P K)(r:R):R:=zf σ.t t fun t=>xk σ.b t r
def Tr.ex:Tr P K->(Tr P K->R)->R
 | .nil,fin=>fin .nil
 | .e t,fin=>fin t
 | @Tr.c _ _ f args fu _ t,fin=>.a (PC P K f args fu) (t.ex fin)
 | @Tr.cf _ _ f args fu _ t,fin=>.a (vg P K f args fu) (t.ex fin)
 | @Tr.cn _ _ f args nl T n sz el _ t,fin=>.a (pZ P K f args nl T n sz el) (t.ex fin)
 | @Tr.g _ _ op₁ ty₁ xe₁ ye₁ ve₁ _ t,fin=>.a (mX P op₁ ty₁ xe₁ ye₁ ve₁) (t.ex fin)
 | .o _ (p:=p) (q:=q) _ t,fin=>.a (PV.le p q) (t.ex fin)
 | .bo t,fin=>.a True (t.ex fin)
 | .a (p:=p) _ t,fin=>.a p (t.ex fin)
 | .w p t1 t2,fin=>.w p (fun h=>(t1 h).ex fin) (fun h=>(t2 h).ex fin)
 | @Tr.s _ _ c₁ σ τ e₁ _ l t,fin=>y8 σ l (.a (Sp P K c₁ σ (fun e' τ'=>e'=e₁/\τ'=τ)) (t.ex fin))
 | .j _ τ tj t,fin=>.a (tj.ex fun t=>y8 τ t .nil).ok (t.ex fin)
 | .v _ (p:=p) (q:=q) _ t,fin=>.a (PV.le p q) (t.ex fin)
 | .b _ _ t,fin=>t.ex fin
 | .z _ t,fin=>t.ex fin
 | .y _ _ _ _ _ _ t,fin=>t.ex fin
 | .k _ _ t,fin=>t.ex fin
 | .u _ t,fin=>t.ex fin
 | .x _,fin=>.a False .nil
 | .r (p:=p) (q:=q) _,fin=>.a (E.le p q) .nil
 | .rb (p:=p) (q:=q) _,fin=>.a (Bx.le p q) .nil
theorem ae9{l:List (Nat×PV)}{t:Tr P K}{k:Tr P K->R}(hk:∀ t,(k t).ok):(zf l t k).ok:=by
 induction l generalizing t with
 | nil=>exact hk t
 | cons x l ih=>
  obtain⟨d,q⟩:=x;cases t with
  | o d' h t'=>
   simp only[zf];split
   .exact ⟨h,ih⟩
   .exact ⟨PV.le.refl q,ih⟩
  | _=>exact⟨PV.le.refl q,ih⟩
theorem SW{l:List (Nat×Bx)}{t:Tr P K}{r:R}(hr:r.ok):(xk l t r).ok:=by
 induction l generalizing t with
 | nil=>exact hr
 | cons x l ih=>
  obtain⟨d,q⟩:=x;cases t with
  | b d' h t'=>
   simp only[xk];split
   .exact ⟨h,ih⟩
   .exact ⟨Bx.le.refl q,ih⟩
  | _=>exact⟨Bx.le.refl q,ih⟩
theorem Js{σ:PS}{t:Tr P K}{r:R}(hr:r.ok):(y8 σ t r).ok:=ae9 fun _=>SW hr
theorem Tr.FV{fin:Tr P K->R}(hf:∀ t,(fin t).ok)(t:Tr P K):(t.ex fin).ok:=by
 induction t generalizing fin with
 | nil=>exact hf _
 | e t=>exact hf _
 | c h t ih=>exact⟨h,ih hf⟩
 | cf h t ih=>exact⟨h,ih hf⟩
 | cn h t ih=>exact⟨h,ih hf⟩
 | g h t ih=>exact⟨h,ih hf⟩
 | o d h t ih=>exact⟨h,ih hf⟩
 | bo t ih=>exact⟨trivial,ih hf⟩
 | a h t ih=>exact⟨h,ih hf⟩
 | w p t1 t2 AR AS=>exact⟨fun h=>AR h hf,fun h=>AS h hf⟩
 | s h l t ihl Hc=>exact Js ⟨h,Hc hf⟩
 | j c τ tj t ZF Hc=>exact⟨ZF fun _=>Js trivial,Hc hf⟩
 | v d h t ih=>exact⟨h,ih hf⟩
 | b d h t ih=>exact ih hf
 | z id t ih=>exact ih hf
 | y s id nl T sz el t ih=>exact ih hf
 | k ts bs t ih=>exact ih hf
 | u n t ih=>exact ih hf
 | x h=>exact h.elim
 | r h=>exact⟨h,trivial⟩
 | rb h=>exact⟨h,trivial⟩
def Jz(υ:PS):List (Nat×PV)->R->R
 | [],r=>r
 | (d,q)::l,r=>.a (PV.le (υ.get d) q) (Jz υ l r)
def Cm(υ:PS):List (Nat×Bx)->R->R
 | [],r=>r
 | (d,q)::l,r=>match υ.bo d with
  | some b=>.a (Bx.le b q) (Cm υ l r)
  | none=>.bad
def Em(υ σ:PS)(r:R):R:=if Nat.beq υ.n σ.n&&(σ.b.all (fun x=>x.2.nl)||(σ.nl==υ.nl))&&BC σ then Jz υ σ.t (Cm υ σ.b r)else .bad
def Tr.tail:Tr P K->Tr P K
 | .c _ t=>t
 | .cf _ t=>t
 | .cn _ t=>t
 | .g _ t=>t
 | .bo t=>t
 | .a _ t=>t
 | _=>.nil
def Ix:List Prop->Tr P K->(Tr P K->R)->R
 | [],t,k=>k t
 | p::l,t,k=>.a p (Ix l t.tail k)
def KY(d:Option Tmp)(t:Tr P K):mc:=match d with
 | some d=>match t with
  | @Tr.c _ _ _ _ fu _ _=>{ cl:=[(d,fu)] }
  | @Tr.cf _ _ _ _ fu _ _=>{ cl:=[(d,fu)] }
  | @Tr.g _ _ _ _ _ _ ve₁ _ _=>{ cl:=[(d,.v ve₁)] }
  | @Tr.cn _ _ _ _ nl T n sz el _ _=>{ nw:=[(d,.row nl T n sz el)] }
  | .bo _=>{ nw:=[(d,.cells 0 [])] }
  | _=>{}
 | none=>{}
def Bt:Tr P K->(Tr P K->R)->R
 | .w p t1 t2,k=>.w p (fun h=>Bt (t1 h) k) (fun h=>Bt (t2 h) k)
 | .x _,_=>.a False .nil
 | t,k=>k t
def IH(o:Oper)(u:Out)(t:Tr P K)(k:Out->Tr P K->R):R:=match o.dst,t with
 | some d,.o d' (q:=q) _ t'=>if Nat.beq d' d then .a (PV.le u.r q) (k { u with r:=q,fo:=PV.le u.r q::u.fo } t')else k u t
 | _,t=>k u t
def IB(T:List TI)(ops:Array Oper)(σ:PS)(o:Oper)(t:Tr P K)(k:Out->Tr P K->R):R:=
 if qx σ o.dst then match tW ops σ o with
  | some false=>k { r:=.e (.v (.tuple #[])),rd:=(looks ops o).map σ.get } t
  | some true=>Bt t fun t=>match eX P K T (KY o.dst t) σ o with
   | some u=>Ix u.fo t fun t=>Bt t fun t=>IH o u t fun u t=>k { u with rd:=(looks ops o).map σ.get } t
   | none=>.bad
  | none=>.bad
 else .bad
def IF(T:List TI)(ops:Array Oper)(k:List (Oper×Out)->PS->Tr P K->R):List Oper->List (Oper×Out)->PS->Tr P K->R
 | [],us,σ,t=>k us σ t
 | o::l,us,σ,t=>IB T ops σ o t fun u t'=>IF T ops k l ((o,u)::us) (σ.app o.dst u) t'
def nd(c:Bool):Tr P K->PS->(Tr P K->PS->R)->R
 | .w p t1 t2,σ,k=>.w p (fun h=>nd c (t1 h) σ k) (fun h=>nd c (t2 h) σ k)
 | .x _,_,_=>.a False .nil
 | .v d (q:=q) _ t,σ,k=>match q with
  | .e x=>if qx σ (some d)then .a (PV.le (σ.get d) (.e x)) (nd c t (σ.put (some d) (.e x)) k)else .bad
  | _=>.bad
 | .k ts bs t,σ,k=>if c then k (.k ts bs t) σ else if BC (σ.cut ts bs)then nd c t (σ.cut ts bs) k else .bad
 | .z id t,σ,k=>if c then k (.z id t) σ else match σ.bo id with
  | some b=>match b.as with
   | some e=>nd c t (σ.rV id e) k
   | none=>.bad
  | none=>.bad
 | .y s id nl T sz el t,σ,k=>if c then k (.y s id nl T sz el t) σ else match σ.bo id,σ.get s with
  | none,.e (.v (.slice none 0 0))=>if !σ.nl||nl then nd c t (σ.xg s id (.row nl T 0 sz el)) k else .bad
  | _,_=>.bad
 | t,σ,k=>k t σ
def Jq(c:Code)(σ:PS)(t:Tr P K)(k:Ex->PS->Tr P K->R):R:=match t with
 | @Tr.s _ _ _ σ' τ e _ _ t=>Em σ σ' (.a (Sp P K c σ' (fun e' τ'=>e'=e/\τ'=τ)) (k e τ t))
 | _=>.bad
def Ex.same:Ex->Ex->Bool
 | .normal,.normal=>true
 | .ret,.ret=>true
 | .exit a,.exit b=>Nat.beq a b
 | _,_=>false
def z8(e:Ex)(τ:PS)(e':Ex)(υ:PS)(_:Tr P K):R:=if Ex.same e' e then Em υ τ .nil else .bad
def Vd:Operand->Nat
 | .tmp t=>2*t
 | _=>1
def jn(c:Nat)(g:PS->Tr P K->(Ex->PS->Tr P K->R)->R)(σ:PS)(t:Tr P K)(k:Ex->PS->Tr P K->R):R:=match t with
 | .j c' τ tj t'=>if Nat.beq c' c then .a (g σ tj (z8 .normal τ)).ok (k .normal τ t')else g σ t k
 | t=>g σ t k
def RM(f:PS->Tr P K->(Ex->PS->Tr P K->R)->R):Nat->PS->Tr P K->(Ex->PS->Tr P K->R)->R
 | 0,_,_,_=>.bad
 | n+1,σ,t,k=>nd false t σ fun t σ=>f σ t fun e τ t=>match e with
  | .normal=>RM f n τ t k
  | e=>k e τ t
def qi(T:List TI):Code->PS->Tr P K->(Ex->PS->Tr P K->R)->R
 | .skip,σ,t,k=>k .normal σ t
 | .region _ ops d,σ,t,k=>IF T ops (fun us τ t=>if !d||yR ops 0 us.reverse then k .normal τ t else .bad) ops.toList [] σ t
 | .seq a b,σ,t,k=>qi T a σ t fun e τ t=>match e with
  | .normal=>qi T b τ t k
  | e=>k e τ t
 | .cond c a b,σ,t,k=>nd true t σ fun t σ=>jn (Vd c) (fun σ t k=>nd true t σ fun t σ=>match σ.op c with
  | .e (.v (.bool true))=>qi T a σ t k
  | .e (.v (.bool false))=>qi T b σ t k
  | _=>.bad) σ t k
 | .block id b,σ,t,k=>nd true t σ fun t σ=>jn (2*id+1) (fun σ t k=>qi T b σ t fun e τ t=>match e with
  | .exit i=>if Nat.beq i id then k .normal τ t else k (.exit i) τ t
  | e=>k e τ t) σ t k
 | .exit id,σ,t,k=>nd false t σ fun t σ=>k (.exit id) σ t
 | .ret,σ,t,k=>nd false t σ fun t σ=>k .ret σ t
 | .loop b,σ,t,k=>nd false t σ fun t σ=>match t with
  | .u n t=>RM (qi T b) n σ t k
  | t=>Jq (.loop b) σ t k
 | .label _,σ,t,k=>k .normal σ t
 | .scope b,σ,t,k=>qi T b σ t k
 | _,_,_,_=>.bad
theorem PG{t:Tr P K}{k:Tr P K->R}(h:(Bt t k).ok):∃ t',(k t').ok:=by
 induction t with
 | w p t1 t2 AR AS=>
  by_cases hp:p
  .exact AR hp (h.1 hp)
  .exact AS hp (h.2 hp)
 | x hf=>exact hf.elim
 | _=>exact⟨_,h⟩
theorem abp{l:List Prop}{t:Tr P K}{k:Tr P K->R}(h:(Ix l t k).ok):(∀ q,q ∈ l->q)/\∃ t',(k t').ok:=by
 induction l generalizing t with
 | nil=>exact⟨fun q hq=>by simp at hq,t,h⟩
 | cons p l ih=>
  obtain⟨h1,h2⟩:=ih h.2;refine⟨fun q hq=>?_,h2⟩;rcases cv.1 hq with hq|hq
  .subst hq;exact h.1
  .exact h1 q hq
variable {T:List TI} {ops:Array Oper} {σ:PS} {o:Oper}
theorem abG{O:mc}{u:Out}{t:Tr P K}{k:Out->Tr P K->R}(hO:O.ov=[])(hu:eX P K T O σ o=some u)(ho:∀ q,q ∈ u.fo->q)(h:(IH o u t k).ok):
 ∃ O' u' t',pz P K T O' σ o=some u'/\(∀ q,q ∈ u'.fo->q)/\(k u' t').ok:=by
 have plain:(k u t).ok->∃ O' u' t',pz P K T O' σ o=some u'/\(∀ q,q ∈ u'.fo->q)/\(k u' t').ok:=by
  intro h;refine⟨O,u,t,?_,ho,h⟩;unfold pz;rw[hu,hO];cases o.dst<;>rfl
 unfold IH at h;split at h
 .rename_i d d' p q hpq t' hd
  split at h
  .obtain ⟨h1,h2⟩:=h
   refine⟨⟨O.cl,[(d,q)],O.nw⟩,_,t',?_,fun x hx=>?_,h2⟩
   .unfold pz
    have he:eX P K T ⟨O.cl,[(d,q)],O.nw⟩ σ o=eX P K T O σ o:=by cases O;rfl
    rw[he,hu,hd];simp[look]
   .rcases cv.1 hx with hx|hx
    .subst hx;exact h1
    .exact ho x hx
  .exact plain h
 .exact plain h
theorem abt{t:Tr P K}{k:Out->Tr P K->R}(h:(IB T ops σ o t k).ok):∃ u t',(∃ O,mI P K T O ops σ o=some u)/\(∀ q,q ∈ u.fo->q)/\(k u t').ok:=by
 unfold IB at h;split at h
 .rename_i hi
  split at h
  .rename_i hw
   refine⟨_,t,⟨{},?_⟩,fun q hq=>by simp at hq,h⟩;unfold mI;rw[aC hi,hw]
  .rename_i hw
   obtain⟨t1,h1⟩:=PG h;split at h1
   .rename_i u hu
    obtain⟨ho,t2,h2⟩:=abp h1;obtain⟨t2,h2⟩:=PG h2;obtain⟨O',u',t3,yj,Y6,h3⟩:=abG (by
     unfold KY;cases o.dst with
     | none=>rfl
     | some d=>cases t1<;>rfl) hu ho h2
    refine⟨{ u' with rd:=(looks ops o).map σ.get },t3,⟨O',?_⟩,Y6,h3⟩;unfold mI;rw[aC hi,hw,yj]
   .exact h1.elim
  .exact h.elim
 .exact h.elim
theorem abE{k:List (Oper×Out)->PS->Tr P K->R}{l:List Oper}{us:List (Oper×Out)}{t:Tr P K}(h:(IF T ops k l us σ t).ok):
 ∃ vs τ t',qO P K T ops vs σ τ/\vs.map (·.1)=l/\(∀ x,x ∈ vs->∀ q,q ∈ x.2.fo->q)/\(k (vs.reverse++us) τ t').ok:=by
 induction l generalizing us σ t with
 | nil=>exact⟨[],σ,t,nm.refl σ,rfl,fun x hx=>by simp at hx,h⟩
 | cons o l ih=>
  obtain⟨u,t1,h1,h2,h3⟩:=abt h;obtain⟨vs,τ,t',k1,k2,k3,k4⟩:=ih h3;refine⟨(o,u)::vs,τ,t',⟨h1,k1⟩,by simp[k2],fun x hx=>?_,by simpa using k4⟩;rcases cv.1 hx with hx|hx
  .subst hx;exact h2
  .exact k3 x hx
theorem PS.le.set{σ:PS}{d:Nat}{x:E}(hd:qx σ (some d)=true)(h:PV.le (σ.get d) (.e x)):PS.le σ (σ.put (some d) (.e x)):=fun w0 B a w L _ r=>by
 have q9:d<σ.n:=by simpa[qx,Nat.blt_eq]using hd
 refine⟨L,r.hd,by rw[PS.Ii];exact r.hs,fun t=>?_,fun id b hb=>r.hb id b hb,r.hv,r.hn,r.hw,r.hi,r.he,r.hl⟩;rw[PS.F5];by_cases e:d=t
 .subst e;rw[aC rfl];exact h _ _ _ _ _ (r.ht d)
 .rw [aB e];exact r.ht t
theorem wK{c:Bool}{t:Tr P K}{σ:PS}{k:Tr P K->PS->R}(h:(nd c t σ k).ok):∃ t' τ,PS.le σ τ/\(k t' τ).ok:=by
 induction t generalizing σ with
 | w p t1 t2 AR AS=>
  by_cases hp:p
  .exact AR hp (h.1 hp)
  .exact AS hp (h.2 hp)
 | k ts bs t ih=>
  simp only[nd]at h;split at h
  .exact ⟨_,σ,PS.le.refl σ,h⟩
  split at h
  .rename_i hr
   obtain⟨t',τ,h1,h2⟩:=ih h;exact⟨t',τ,(PS.le.cut ts bs hr).trans h1,h2⟩
  .exact h.elim
 | v d h0 t ih=>
  simp only[nd]at h;split at h
  .rename_i x
   split at h
   .rename_i hd
    obtain⟨t',τ,h1,h2⟩:=ih h.2;exact⟨t',τ,(PS.le.set hd h.1).trans h1,h2⟩
   .exact h.elim
  .exact h.elim
 | z id t ih=>
  simp only[nd]at h;split at h
  .exact ⟨_,σ,PS.le.refl σ,h⟩
  split at h
  .rename_i b hb
   split at h
   .rename_i e he
    obtain⟨t',τ,h1,h2⟩:=ih h;exact⟨t',τ,(PS.le.freeze id hb he).trans h1,h2⟩
   .exact h.elim
  .exact h.elim
 | y s id nl T sz el t ih=>
  simp only[nd]at h;split at h
  .exact ⟨_,σ,PS.le.refl σ,h⟩
  split at h
  .rename_i hb hg
   split at h
   .rename_i hn
    obtain⟨t',τ,h1,h2⟩:=ih h;exact⟨t',τ,(PS.le.Sz s id hb hg (fun e=>by rw[e]at hn;simpa using hn)).trans h1,h2⟩
   .exact h.elim
  .exact h.elim
 | x hf=>exact hf.elim
 | _=>exact⟨_,σ,PS.le.refl σ,h⟩
theorem afa{υ:PS}{l:List (Nat×PV)}{r:R}(h:(Jz υ l r).ok):rH υ l/\r.ok:=by
 induction l with
 | nil=>exact⟨trivial,h⟩
 | cons x l ih=>obtain⟨d,q⟩:=x;exact⟨⟨h.1,(ih h.2).1⟩,(ih h.2).2⟩
theorem Tp{υ:PS}{l:List (Nat×Bx)}{r:R}(h:(Cm υ l r).ok):qN υ l/\r.ok:=by
 induction l with
 | nil=>exact⟨trivial,h⟩
 | cons x l ih=>
  obtain⟨d,q⟩:=x;simp only[Cm]at h;split at h
  .rename_i b hb
   exact⟨⟨⟨b,hb,h.1⟩,(ih h.2).1⟩,(ih h.2).2⟩
  .exact h.elim
theorem Ra{υ σ:PS}{r:R}(h:(Em υ σ r).ok):PS.le υ σ/\r.ok:=by
 unfold Em at h;split at h
 .rename_i hc
  simp only[aX,ag5,beq_iff_eq]at hc;obtain⟨⟨h1,h2⟩,h3⟩:=hc;obtain⟨h4,h5⟩:=afa h;obtain⟨h6,h7⟩:=Tp h5;refine⟨?_,h7⟩;rcases h2 with h2|h2
  .exact PS.le.aan (beq_iff.1 h1) h2 h3 h4 h6
  .exact PS.le.lf (beq_iff.1 h1) h2 h3 h4 h6
 .exact h.elim
theorem ad2(hT:iC P T){w0:World}{B:Nat->Prop}{a:Act}{w:World}{L:Lk}(g:Gd P K w0 B){us:List (Oper×Out)}{τ:PS}{Q:Exit->Act->World->Prop}(h:qO P K T ops us σ τ)(ho:∀ x,x ∈ us->∀ q,q ∈ x.2.fo->q)
 (r:Rel w0 B σ a w L) (hq:∀ a' w' L',Rel w0 B τ a' w' L'->Q .normal a' w'):wpList P ops Q (us.map (·.1)) a w:=by
 induction us generalizing σ a w L with
 | nil=>exact hq a w L (r.same h)
 | cons x us ih=>
  obtain⟨⟨O,h1⟩,h2⟩:=h;rw[agK];unfold wpList;rcases LP hT g r h1 (ho x aj) (wpList P ops Q (us.map (·.1))) Q (fun a' w' L' hr=>ih h2 (fun y hy=>ho y (by simp[hy])) hr)with⟨p1,p2⟩|⟨p1,p2⟩
  .rw [aC p1];exact .inl p2
  .rw [aB (by rw[p1];simp)];exact p2
theorem adu(hT:iC P T)(hm:P.follows .mixedOrders=true){w0:World}{B:Nat->Prop}{a:Act}{w:World}{L:Lk}(g:Gd P K w0 B){id:Nat}{draw:Bool}{us:List (Oper×Out)}{τ:PS}{Q:Exit->Act->World->Prop}
 (h:qO P K T ops us σ τ) (hl:us.map (·.1)=ops.toList) (ho:∀ x,x ∈ us->∀ q,q ∈ x.2.fo->q) (hp:(!draw||yR ops 0 us)=true) (r:Rel w0 B σ a w L)
 (hq:∀ a' w' L',Rel w0 B τ a' w' L'->Q .normal a' w'):(Code.region id ops draw).wp P Q a w:=by
 cases draw with
 | false=>exact wp_region_list (by rw[<-hl];exact ad2 hT g h ho r hq)
 | true=>
  obtain⟨R,r1,r2,r3⟩:=aau hl (by simpa using hp);refine wp_region_any hm (SC hT g hq ops.size (Array.replicate ops.size false) R σ a w.drew L r2 aj r3 (fun x hx=>ho x.2 ?_) (by rw[r1];exact h) r.drew);rw[<-r1];exact cB.2 ⟨x,hx,rfl⟩
theorem aeB{c:Code}{t:Tr P K}{k:Ex->PS->Tr P K->R}(h:(Jq c σ t k).ok):Sp P K c σ (fun e τ=>∃ t',(k e τ t').ok):=by
 unfold Jq at h;split at h
 .obtain ⟨h1,h2,h3⟩:=Ra h
  exact Sp.pre h1 (h2.mono fun e τ ⟨q1,q2⟩=>by subst q1 q2;exact⟨_,h3⟩)
 .exact h.elim
theorem Ex.ad3{a b:Ex}(h:Ex.same a b=true):a=b:=by
 cases a<;>cases b<;>first|rfl|(cases h;done)|exact congrArg Ex.exit (beq_iff.1 h)
theorem LG{e e':Ex}{τ υ:PS}{t:Tr P K}(h:(z8 e τ e' υ t).ok):e'=e/\PS.le υ τ:=by
 unfold z8 at h;split at h
 .rename_i he;exact⟨Ex.ad3 he,(Ra h).1⟩
 .exact h.elim
theorem Ob{c:Code}{cb:Nat}{g:PS->Tr P K->(Ex->PS->Tr P K->R)->R}(hg:∀ σ t k,(g σ t k).ok->Sp P K c σ (fun e τ=>∃ t',(k e τ t').ok)){σ:PS}{t:Tr P K}{k:Ex->PS->Tr P K->R}(h:(jn cb g σ t k).ok):
 Sp P K c σ (fun e τ=>∃ t',(k e τ t').ok):=by
 unfold jn at h;split at h
 .rename_i c' τ tj t
  split at h
  .refine (hg _ _ _ h.1).post fun e υ ⟨t',ht⟩=>?_
   obtain⟨he,hl⟩:=LG ht;exact⟨τ,hl,t,by rw[he];exact h.2⟩
  .exact hg _ _ _ h
 .exact hg _ _ _ h
def qP(P:Program)(K:World->Prop)(b:Code)(σ:PS)(Q:Ex->PS->Prop):Prop:=
 ∀ (w0:World) (B:Nat->Prop) (a:Act) (w:World) (L:Lk),Gd P K w0 B->Rel w0 B σ a w L->∀ bf k cs,
  ∃ e a' w',(∃ ex τ L',e=Ex.to ex/\Q ex τ/\Rel w0 B τ a' w' L')/\Arrives P (lone (bf.at a (.code b :: .inLoop b::k)) cs w) bf k cs e a' w'
theorem qP.loop{b:Code}{σ:PS}{Q:Ex->PS->Prop}(h:qP P K b σ Q):Sp P K (.loop b) σ Q:=by
 intro w0 B a w L g r bf k cs;obtain⟨e,a',w',hq,q6⟩:=h w0 B a w L g r bf k cs;exact⟨e,a',w',hq,.of_steps (.one step_loop) q6⟩
theorem qP.pre{b:Code}{σ τ:PS}{Q:Ex->PS->Prop}(h:PS.le σ τ)(k:qP P K b τ Q):qP P K b σ Q:=fun w0 B a w L g r=>
 let⟨L',r'⟩:=h w0 B a w L (fun b hb=>(g.hB b hb).1) r;k w0 B a w L' g r'
theorem qP.step{b:Code}{σ:PS}{Q:Ex->PS->Prop}(h:Sp P K b σ (fun e τ=>(e = .normal/\qP P K b τ Q)\/(e ≠ .normal/\Q e τ))):qP P K b σ Q:=by
 intro w0 B a w L g r bf k cs;obtain⟨e,a₁,w₁,⟨ex,υ,L2,rfl,hq,jO⟩,q6⟩:=h w0 B a w L g r bf (.inLoop b::k) cs;rcases hq with⟨rfl,hs⟩|⟨fK,hq⟩
 .obtain ⟨e₂,a₂,w₂,GS,Gp⟩:=hs w0 B a₁ w₁ L2 g jO bf k cs
  exact⟨e₂,a₂,w₂,GS,.of_steps (Steps.trans q6 (.one step_inLoop)) Gp⟩
 .cases ex with
  | normal=>exact absurd rfl fK
  | exit i=>exact⟨_,a₁,w₁,⟨.exit i,υ,L2,rfl,hq,jO⟩,.pass (x:=.inLoop b) rfl (fun _ _=>.inl (by simp[Ex.to])) q6⟩
  | ret=>exact⟨_,a₁,w₁,⟨.ret,υ,L2,rfl,hq,jO⟩,.pass (x:=.inLoop b) rfl (fun _ _=>.inl (by simp[Ex.to])) q6⟩
theorem FL(hT:iC P T)(hm:P.follows .mixedOrders=true){c:Code}{σ:PS}{t:Tr P K}{k:Ex->PS->Tr P K->R}(h:(qi T c σ t k).ok):Sp P K c σ (fun e τ=>∃ t',(k e τ t').ok):=by
 induction c generalizing σ t k with
 | skip=>exact fun w0 B a w L g r=>wp_skip ⟨.normal,_,L,rfl,⟨t,h⟩,r⟩
 | region id ops d=>
  obtain⟨vs,τ,t',h1,h2,h3,h4⟩:=abE h;split at h4
  .rename_i hp
   simp only[List.append_nil,List.reverse_reverse]at hp;exact fun w0 B a w L g r=>adu hT hm g h1 h2 h3 hp r fun a' w' L' hr=>⟨.normal,τ,L',rfl,⟨t',h4⟩,hr⟩
  .exact h4.elim
 | seq x y Hd He=>
  intro w0 B a w L g r;refine wp_seq (Code.wp_mono ?_ (Hd h w0 B a w L g r));rintro ex a' w' ⟨e1,τ1,L',rfl,⟨t',ht⟩,hr⟩;cases e1 with
  | normal=>exact He ht w0 B a' w' L' g hr
  | exit i=>exact⟨.exit i,τ1,L',rfl,⟨t',ht⟩,hr⟩
  | ret=>exact⟨.ret,τ1,L',rfl,⟨t',ht⟩,hr⟩
 | cond c x y Hd He=>
  obtain⟨t1,τ,hle,h1⟩:=wK h;refine Sp.pre hle (Ob (fun σ t k h=>?_) h1);obtain⟨t1,τ,hle,h1⟩:=wK h;refine Sp.pre hle ?_;split at h1
  .rename_i hc
   intro w0 B a w L g r;have hv:=r.op c;rw[hc]at hv;exact wp_cond_true (eo.gn hv) (Hd h1 w0 B a w L g r)
  .rename_i hc
   intro w0 B a w L g r;have hv:=r.op c;rw[hc]at hv;exact wp_cond_false (eo.gn hv) (He h1 w0 B a w L g r)
  .exact h1.elim
 | block id b ih=>
  obtain⟨t1,τ,hle,h1⟩:=wK h;refine Sp.pre hle (Ob (fun σ t k h=>?_) h1);intro w0 B a w L g r;refine wp_block (Code.wp_mono ?_ (ih h w0 B a w L g r));rintro ex a' w' ⟨e1,τ1,L',rfl,⟨t',ht⟩,hr⟩;cases e1 with
  | normal=>exact⟨.normal,_,L',rfl,⟨t',ht⟩,hr⟩
  | ret=>exact⟨.ret,_,L',rfl,⟨t',ht⟩,hr⟩
  | exit i=>
   simp only at ht;show Exit.inBlock id _ (.exit i) a' w';split at ht
   .rename_i hi
    have hi:=beq_iff.1 hi;subst hi;simp only[Exit.inBlock,aW];exact⟨.normal,_,L',rfl,⟨t',ht⟩,hr⟩
   .rename_i hi
    have hi:i≠id:=fun e=>hi (beq_iff.2 e)
    simp only[Exit.inBlock,hi,aL];exact⟨.exit i,_,L',rfl,⟨t',ht⟩,hr⟩
 | label l=>exact fun w0 B a w L g r=>wp_label ⟨.normal,_,L,rfl,⟨t,h⟩,r⟩
 | scope b ih=>
  intro w0 B a w L g r;refine wp_scope_straight (Code.wp_mono ?_ (ih h w0 B a w L g r));rintro ex a' w' ⟨e1,τ1,L',rfl,⟨t',ht⟩,hr⟩;cases e1 with
  | normal=>exact⟨.normal,τ1,L',rfl,⟨t',ht⟩,hr⟩
  | ret=>exact⟨.ret,τ1,L',rfl,⟨t',ht⟩,hr⟩
  | exit i=>exact⟨.exit i,τ1,L',rfl,⟨t',ht⟩,hr⟩
 | exit id=>
  obtain⟨t1,τ,hle,h1⟩:=wK h;exact Sp.pre hle fun w0 B a w L g r=>wp_exit ⟨.exit id,_,L,rfl,⟨t1,h1⟩,r⟩
 | ret=>
  obtain⟨t1,τ,hle,h1⟩:=wK h;exact Sp.pre hle fun w0 B a w L g r=>wp_ret ⟨.ret,_,L,rfl,⟨t1,h1⟩,r⟩
 | loop b ih=>
  obtain⟨t1,τ,hle,h1⟩:=wK h;refine Sp.pre hle ?_;split at h1
  .rename_i n t
   clear hle h;refine qP.loop ?_
   induction n generalizing τ t with
   | zero=>exact h1.elim
   | succ n ZG=>
    obtain⟨t2,τ2,hle,h1⟩:=wK h1;refine qP.pre hle (qP.step ((ih h1).mono fun e υ ⟨t',ht⟩=>?_));cases e with
    | normal=>exact .inl ⟨rfl,ZG _ _ ht⟩
    | exit i=>exact .inr ⟨ aj,t',ht⟩
    | ret=>exact .inr ⟨ aj,t',ht⟩
  .exact aeB h1
 | _=>exact h.elim
theorem Sp.tr(hT:iC P T)(hm:P.follows .mixedOrders=true){c:Code}{σ τ:PS}{e:Ex}(t:Tr P K)(h:qi T c σ t (z8 e τ)=t.ex fun t=>y8 τ t .nil):
 Sp P K c σ (fun e' τ'=>e'=e/\τ'=τ):=by
 have hk:=Tr.FV (fin:=fun t=>y8 τ t .nil) (fun t=>Js trivial) t;rw[<-h]at hk;refine(FL hT hm hk).post fun e' υ ⟨t',ht⟩=>?_
 obtain⟨he,hl⟩:=LG ht;exact⟨τ,hl,he,rfl⟩
def LY(T:List TI)(fn:Func)(fu:E)(e:Ex)(τ:PS)(_:Tr P K):R:=match e with
 | .exit _=>.bad
 | _=>match D8 T fn τ with
  | some r=>.a (E.le r fu) .nil
  | none=>.bad
def I2(T:List TI)(fn:Func)(nl:Bool)(args:List E)(fu:E)(t:Tr P K):R:=match fn.body with
 | some c=>if Nat.ble args.length fn.ntmps then qi T c (uH fn nl args) t (LY T fn fu)else .bad
 | none=>.bad
theorem PC.JC(hT:iC P T)(hm:P.follows .mixedOrders=true)(hp:∀ w w',K w->Below w.heap.size w w'->K w'){f:FuncId}{fn:Func}{args:List E}{fu:E}(q8:∀ (vs:Array Value) (w:World),(callFunc f vs).run P w = .ok (.enter f vs) w)
 (hf:P.funcs[f]? = some fn) (nl:Bool) (t:Tr P K) (h:I2 T fn nl args fu t=t.ex fun _=>.a (E.le fu fu) .nil):PC P K f args fu:=by
 have hk:=Tr.FV (fin:=fun _=>.a (E.le fu fu) .nil) (fun t=>⟨E.le.refl fu,trivial⟩) t;rw[<-h]at hk;unfold I2 at hk;split at hk
 .rename_i c hb
  split at hk
  .rename_i hn
   refine PC.Ih hT hm hp q8 hf hb (b7 hn) nl ((FL hT hm hk).mono fun e τ ⟨t',ht⟩=>?_);unfold LY at ht;split at ht
   .exact ht.elim
   .rename_i fK
    split at ht
    .rename_i r hr
     refine⟨?_,r,hr,ht.1⟩;cases e with
     | normal=>exact .inr rfl
     | ret=>exact .inl rfl
     | exit i=>exact absurd rfl (fK i)
    .exact ht.elim
  .exact hk.elim
 .exact hk.elim
def LX(fn:Func)(b:Bx)(e:Ex)(τ:PS)(_:Tr P K):R:=match e with
 | .exit _=>.bad
 | _=>match fn.results.toList with
  | [.tmp t]=>match τ.get t with
   | .own id=>match τ.bo id with
    | some c=>.a (Bx.le c b) .nil
    | none=>.bad
   | _=>.bad
  | _=>.bad
def I1(T:List TI)(fn:Func)(args:List E)(b:Bx)(t:Tr P K):R:=match fn.body with
 | some c=>if Nat.ble args.length fn.ntmps then qi T c (uH fn true args) t (LX fn b)else .bad
 | none=>.bad
theorem pZ.JC(hT:iC P T)(hm:P.follows .mixedOrders=true)(hp:∀ w w',K w->Below w.heap.size w w'->K w'){f:FuncId}{fn:Func}{args:List E}{nl:Bool}{T0:TypeId}{n sz:Nat}{el:Nat->Nat->E}(q8:∀ (vs:Array Value) (w:World),(callFunc f vs).run P w = .ok (.enter f vs) w)
 (hf:P.funcs[f]? = some fn) (t:Tr P K) (h:I1 T fn args (.row nl T0 n sz el) t=t.ex fun _=>.a (Bx.le (.row nl T0 n sz el) (.row nl T0 n sz el)) .nil):pZ P K f args nl T0 n sz el:=by
 have hk:=Tr.FV (fin:=fun _=>.a (Bx.le (.row nl T0 n sz el) (.row nl T0 n sz el)) .nil) (fun t=>⟨Bx.le.refl _,trivial⟩) t;rw[<-h]at hk;unfold I1 at hk;split at hk
 .rename_i c hb
  split at hk
  .rename_i hn
   refine pZ.Ih hT hm hp q8 hf hb (b7 hn) true ((FL hT hm hk).mono fun e τ ⟨t',ht⟩=>?_);unfold LX at ht;split at ht
   .exact ht.elim
   .rename_i fK
    split at ht
    .rename_i t0 hr
     split at ht
     .rename_i id hg
      split at ht
      .rename_i c' hc
       refine⟨?_,t0,id,c',hr,hg,hc,fun bs br L w hk=>ht.1.2 _ _ _ _ _ hk⟩;cases e with
       | normal=>exact .inr rfl
       | ret=>exact .inl rfl
       | exit i=>exact absurd rfl (fK i)
      .exact ht.elim
     .exact ht.elim
    .exact ht.elim
  .exact hk.elim
 .exact hk.elim
theorem Sp.upto{b:Code}{e:Ex}{τ:PS}(f:Nat->PS)(lo hi:Nat)(h0:lo<=hi)(go:∀ x,(lo<=x/\x<=hi)->x<hi->Sp P K b (f x) (fun e' υ=>e' = .normal/\υ=f (x+1)))
 (out:(lo<=hi/\hi<=hi)->Sp P K b (f hi) (fun e' υ=>e'=e/\υ=τ)) (he:e ≠ .normal):Sp P K (.loop b) (f lo) (fun e' υ=>e'=e/\υ=τ):=by
 refine Sp.WE f (fun x=>lo<=x/\x<=hi) (fun x=>hi-x) (fun x hx=>?_) lo ⟨aG _,h0⟩ (PS.le.refl _);rcases Nat.lt_or_eq_of_le hx.2 with ek|heq
 .exact Sp.WG (x+1) (go x hx ek) ⟨ ae, ae⟩ ae (PS.le.refl _)
 .subst heq
  exact Sp.WH (out hx) he (PS.le.refl _)
def eh(z:Int)(h:-9223372036854775808<=z/\z<=9223372036854775807):Tr P K->Tr P K:=.a (p:=gI .i64 z) h
def nJ(z:Int)(h:0<=z/\z<=18446744073709551615):Tr P K->Tr P K:=.a (p:=gI .u64 z) h
def iX(z:Int)(n:Nat)(h:0<=z/\z<n):Tr P K->Tr P K:=.a h
def tB(d:Nat){a b:Bool}(h:a=b):Tr P K->Tr P K:=.o d (PV.le.bool h)
def tT(d:Nat)(p:Prop)[Decidable p](h:p):Tr P K->Tr P K:=.o d (PV.le.bool (aE h))
def tF(d:Nat)(p:Prop)[Decidable p](h:¬p):Tr P K->Tr P K:=.o d (PV.le.bool (aD h))
theorem Fb{b:Bool}(h:b=true):(!b)=false:=by rw[h];rfl
theorem Fa{b:Bool}(h:b=false):(!b)=true:=by rw[h];rfl
def rQ(p q:E)(h:p=q):Tr P K:=.r (E.le.of_eq h)
def rR(q:E){p:E}(h:E.le p q):Tr P K:=.r h
def chain(l:List (Tr P K->Tr P K))(t:Tr P K):Tr P K:=l.foldr (fun f t=>f t) t
end
end Go.Proofs.YtdgnpeddgdclhaaGreatDoor.Pu
namespace Go.Proofs.YtdgnpeddgdclhaaGreatDoor
open Go.RowKit Fp Pu
theorem tr(nl:Bool){f:FuncId}{fn:Func}{args:List E}{fu:E}(q8:∀ (vs:Array Value) (w:World),(callFunc f vs).run Tryz.prog w = .ok (.enter f vs) w)
 (hf:Tryz.prog.funcs[f]? = some fn) (t:Tr Tryz.prog Tb) (h:I2 TT fn nl args fu t=t.ex fun _=>.a (E.le fu fu) .nil):dM f args fu:=
 PC.JC EO mixed J1 q8 hf nl t h
theorem eu{c:Code}{σ τ:PS}{e:Ex}(t:Tr Tryz.prog Tb)(h:qi TT c σ t (z8 e τ)=t.ex fun t=>y8 τ t .nil):
 Sp Tryz.prog Tb c σ (fun e' τ'=>e'=e/\τ'=τ):=Sp.tr EO mixed t h
abbrev fP(k:Nat)(fn:Func)(σ:PS)(e:Ex)(τ:PS):Prop:=Sp Tryz.prog Tb (.loop (TM k fn)) σ (fun e' τ'=>e'=e/\τ'=τ)
open Go.RowKit Fp Pu
def NT(nl:Bool)(n N:Nat)(el:Nat->Nat->E)(g:FuncId)(cap:List E)(i:Nat):PS:=⟨19,false,[(8,.e (iP i)),(7,.e (iP n)),(0,.e (.sl nl n 1 el)),(1,.e (.fn g cap))],[]⟩
def NS(nl:Bool)(n:Nat)(el:Nat->Nat->E)(g:FuncId)(cap:List E)(i:Nat):PS:=⟨19,false,[(8,.e (iP i)),(7,.e (iP n)),(0,.e (.sl nl n 1 el)),(1,.e (.fn g cap))],[]⟩
def Oh(nl:Bool)(n:Nat)(el:Nat->Nat->E)(g:FuncId)(cap:List E)(i:Nat):PS:=⟨19,false,[(8,.e (iP i)),(7,.e (iP n)),(0,.e (.sl nl n 1 el)),(1,.e (.fn g cap))],[]⟩
def Oa(nl:Bool)(n N:Nat)(el:Nat->Nat->E)(g:FuncId)(cap:List E)(i:Nat):PS:=⟨19,false,[(8,.e (iP i)),(7,.e (iP n)),(0,.e (.sl nl n 7 el)),(1,.e (.fn g cap))],[]⟩
def N9(nl:Bool)(n:Nat)(el:Nat->Nat->E)(g:FuncId)(cap:List E)(i:Nat):PS:=⟨19,false,[(8,.e (iP i)),(7,.e (iP n)),(0,.e (.sl nl n 7 el)),(1,.e (.fn g cap))],[]⟩
def QC(nl:Bool)(n:Nat)(el:Nat->Nat->E)(g:FuncId)(cap:List E)(i:Nat):PS:=⟨19,false,[(8,.e (iP i)),(7,.e (iP n)),(0,.e (.sl nl n 1 el)),(1,.e (.fn g cap))],[]⟩
theorem oK{p:Nat->Bool}{n:Nat}(h:∃ i,i<n/\p i=true):∃ N,N<n/\p N=true/\∀ i,i<N->p i=false:=by
 induction n with
 | zero=>obtain⟨i,h1,_⟩:=h;omega
 | succ n ih=>
  by_cases hn:∃ i,i<n/\p i=true
  .obtain ⟨N,h1,h2,h3⟩:=ih hn;exact⟨N, ae,h2,h3⟩
  .obtain ⟨i,h1,h2⟩:=h
   have:i=n:=by
    by_cases q:i=n
    .exact q
    .exact absurd ⟨i, ae,h2⟩ hn
   subst this;exact⟨i,h1,h2,fun j hj=>by simpa using fun q=>hn ⟨j,hj,q⟩⟩
theorem ZY(nl:Bool)(n:Nat)(el:Nat->Nat->E)(g:FuncId)(cap:List E)(p:Nat->Bool)(hp:∀ i,i<n->dM g ((el i 0)::cap) (bP (p i)))(N:Nat)(hl:n<=1000000)(ki:N<n)(eC:∀ i,i<N->p i=false)(hN:p N=true):dM 170 [.sl nl n 1 el,.fn g cap] (iP N):=by
 exact tr false Tryz.call170 Tryz.func170 (chain [.s (Sp.upto (NT nl n N el g cap) 0 N ae (fun i hi mN=>by
    exact eu (chain [tT 9 ((i:Int)<(n:Int)) ae,iX ((i:Int)) (n) ae,.c (hp i ae :dM g ((el i 0)::cap) _),tB 16 (eC i ae :(p i)=false),eh ((i:Int)+1) ae]<|.nil) ah)
  (fun hi=>by
    exact eu (chain [tT 9 ((N:Int)<(n:Int)) ae,iX ((N:Int)) (n) ae,.c (hp N ae :dM g ((el N 0)::cap) _),tB 16 (hN:(p N)=true)]<|.nil) ah) ak :fP 2 Tryz.f170 (NT nl n N el g cap 0) .ret ⟨19,false,[(4,.e (iP N))],[]⟩) .nil]<|.nil) ah 
theorem Z0(nl:Bool)(n:Nat)(el:Nat->Nat->E)(g:FuncId)(cap:List E)(p:Nat->Bool)(hp:∀ i,i<n->dM g ((el i 0)::cap) (bP (p i)))(hl:n<=1000000)(eC:∀ i,i<n->p i=false):dM 170 [.sl nl n 1 el,.fn g cap] (iP (-1)):=by
 exact tr false Tryz.call170 Tryz.func170 (chain [.s (Sp.upto (NS nl n el g cap) 0 n ae (fun i hi mN=>by
    exact eu (chain [tT 9 ((i:Int)<(n:Int)) ae,iX ((i:Int)) (n) ae,.c (hp i ae :dM g ((el i 0)::cap) _),tB 16 (eC i ae :(p i)=false),eh ((i:Int)+1) ae]<|.nil) ah)
  (fun hi=>by
    exact eu (chain [tF 9 ((n:Int)<(n:Int)) ae]<|.nil) ah) ak :fP 2 Tryz.f170 (NS nl n el g cap 0) (.exit 0) ⟨19,false,[],[]⟩) .nil]<|.nil) ah 
theorem ZZ(nl:Bool)(n:Nat)(el:Nat->Nat->E)(g:FuncId)(cap:List E)(p:Nat->Bool)(hp:∀ i,i<n->dM g ((el i 0)::cap) (bP (p i)))(N:Nat)(hl:n<=1000000)(ki:N<n)(eC:∀ i,i<N->p i=false)(hN:p N=true):dM 134 [.sl nl n 1 el,.fn g cap] (bP true):=by
 exact tr false Tryz.call134 Tryz.func134 (chain [.c (ZY nl n el g cap p hp N hl ki eC hN:dM 170 [(.sl nl n 1 el),(.fn g cap)] _),tT 8 (0<=(N:Int)) ae]<|.nil) ah 
theorem Hk(nl:Bool)(n:Nat)(el:Nat->Nat->E)(g:FuncId)(cap:List E)(p:Nat->Bool)(hp:∀ i,i<n->dM g ((el i 0)::cap) (bP (p i)))(hl:n<=1000000)(eC:∀ i,i<n->p i=false):dM 134 [.sl nl n 1 el,.fn g cap] (bP false):=by
 exact tr false Tryz.call134 Tryz.func134 (chain [.c (Z0 nl n el g cap p hp hl eC:dM 170 [(.sl nl n 1 el),(.fn g cap)] _),tB 8 ( ag :(decide ((0:Int)<=(-1)))=false)]<|.nil) ah 
theorem ZX(nl:Bool)(n:Nat)(el:Nat->Nat->E)(g:FuncId)(cap:List E)(p:Nat->Bool)(hp:∀ i,i<n->dM g ((el i 0)::cap) (bP (p i)))(hl:n<=1000000):dM 134 [.sl nl n 1 el,.fn g cap] (bP ((List.range n).any p)):=by
 by_cases h:∃ i,i<n/\p i=true
 .obtain ⟨N,h1,h2,h3⟩:∃ N,N<n/\p N=true/\∀ i,i<N->p i=false:=oK h
  refine(ZZ nl n el g cap p hp N hl h1 h3 h2).fu (.of_eq ?_);rw[cX.2 ⟨N,bt.2 h1,h2⟩]
 .refine (Hk nl n el g cap p hp hl fun i hi=>by simpa using fun q=>h ⟨i,hi,q⟩).fu (.of_eq ?_)
  rw[dv.2 fun i hi q=>h ⟨i,bt.1 hi,q⟩]
theorem aaD(nl:Bool)(n:Nat)(el:Nat->Nat->E)(g:FuncId)(cap:List E)(p:Nat->Bool)(hp:∀ i,i<n->dM g ((el i 0)::cap) (bP (p i)))(hl:n<=1000000)(eC:∀ i,i<n->p i=false):dM 233 [.sl nl n 1 el,.fn g cap] (iP (-1)):=by
 exact tr false Tryz.call233 Tryz.func233 (chain [.s (Sp.upto (Oh nl n el g cap) 0 n ae (fun i hi mN=>by
    exact eu (chain [tT 9 ((i:Int)<(n:Int)) ae,iX ((i:Int)) (n) ae,.c (hp i ae :dM g ((el i 0)::cap) _),tB 16 (eC i ae :(p i)=false),eh ((i:Int)+1) ae]<|.nil) ah)
  (fun hi=>by
    exact eu (chain [tF 9 ((n:Int)<(n:Int)) ae]<|.nil) ah) ak :fP 2 Tryz.f233 (Oh nl n el g cap 0) (.exit 0) ⟨19,false,[],[]⟩) .nil]<|.nil) ah 
theorem Ol(nl:Bool)(n:Nat)(el:Nat->Nat->E)(g:FuncId)(cap:List E)(p:Nat->Bool)(hp:∀ i,i<n->dM g ((el i 0)::cap) (bP (p i)))(hl:n<=1000000)(eC:∀ i,i<n->p i=false):dM 202 [.sl nl n 1 el,.fn g cap] (bP false):=by
 exact tr false Tryz.call202 Tryz.func202 (chain [.c (aaD nl n el g cap p hp hl eC:dM 233 [(.sl nl n 1 el),(.fn g cap)] _),tB 8 ( ag :(decide ((0:Int)<=(-1)))=false)]<|.nil) ah 
theorem aai(nl:Bool)(n:Nat)(el:Nat->Nat->E)(g:FuncId)(cap:List E)(p:Nat->Bool)(hp:∀ i,i<n->dM g ((.agg [(el i 0),(el i 1),(el i 2),(el i 3),(el i 4),(el i 5),(el i 6)])::cap) (bP (p i)))(N:Nat)(hl:n<=1000000)(ki:N<n)(eC:∀ i,i<N->p i=false)(hN:p N=true):dM 51 [.sl nl n 7 el,.fn g cap] (iP N):=by
 exact tr false Tryz.call51 Tryz.func51 (chain [.s (Sp.upto (Oa nl n N el g cap) 0 N ae (fun i hi mN=>by
    exact eu (chain [tT 9 ((i:Int)<(n:Int)) ae,iX ((i:Int)) (n) ae,.c (hp i ae :dM g ((.agg [(el i 0),(el i 1),(el i 2),(el i 3),(el i 4),(el i 5),(el i 6)])::cap) _),tB 16 (eC i ae :(p i)=false),eh ((i:Int)+1) ae]<|.nil) ah)
  (fun hi=>by
    exact eu (chain [tT 9 ((N:Int)<(n:Int)) ae,iX ((N:Int)) (n) ae,.c (hp N ae :dM g ((.agg [(el N 0),(el N 1),(el N 2),(el N 3),(el N 4),(el N 5),(el N 6)])::cap) _),tB 16 (hN:(p N)=true)]<|.nil) ah) ak :fP 2 Tryz.f51 (Oa nl n N el g cap 0) .ret ⟨19,false,[(4,.e (iP N))],[]⟩) .nil]<|.nil) ah 
theorem aak(nl:Bool)(n:Nat)(el:Nat->Nat->E)(g:FuncId)(cap:List E)(p:Nat->Bool)(hp:∀ i,i<n->dM g ((.agg [(el i 0),(el i 1),(el i 2),(el i 3),(el i 4),(el i 5),(el i 6)])::cap) (bP (p i)))(hl:n<=1000000)(eC:∀ i,i<n->p i=false):dM 51 [.sl nl n 7 el,.fn g cap] (iP (-1)):=by
 exact tr false Tryz.call51 Tryz.func51 (chain [.s (Sp.upto (N9 nl n el g cap) 0 n ae (fun i hi mN=>by
    exact eu (chain [tT 9 ((i:Int)<(n:Int)) ae,iX ((i:Int)) (n) ae,.c (hp i ae :dM g ((.agg [(el i 0),(el i 1),(el i 2),(el i 3),(el i 4),(el i 5),(el i 6)])::cap) _),tB 16 (eC i ae :(p i)=false),eh ((i:Int)+1) ae]<|.nil) ah)
  (fun hi=>by
    exact eu (chain [tF 9 ((n:Int)<(n:Int)) ae]<|.nil) ah) ak :fP 2 Tryz.f51 (N9 nl n el g cap 0) (.exit 0) ⟨19,false,[],[]⟩) .nil]<|.nil) ah 
theorem aaj(nl:Bool)(n:Nat)(el:Nat->Nat->E)(g:FuncId)(cap:List E)(p:Nat->Bool)(hp:∀ i,i<n->dM g ((.agg [(el i 0),(el i 1),(el i 2),(el i 3),(el i 4),(el i 5),(el i 6)])::cap) (bP (p i)))(N:Nat)(hl:n<=1000000)(ki:N<n)(eC:∀ i,i<N->p i=false)(hN:p N=true):dM 17 [.sl nl n 7 el,.fn g cap] (bP true):=by
 exact tr false Tryz.call17 Tryz.func17 (chain [.c (aai nl n el g cap p hp N hl ki eC hN:dM 51 [(.sl nl n 7 el),(.fn g cap)] _),tT 8 (0<=(N:Int)) ae]<|.nil) ah 
theorem wA(nl:Bool)(n:Nat)(el:Nat->Nat->E)(g:FuncId)(cap:List E)(p:Nat->Bool)(hp:∀ i,i<n->dM g ((.agg [(el i 0),(el i 1),(el i 2),(el i 3),(el i 4),(el i 5),(el i 6)])::cap) (bP (p i)))(hl:n<=1000000)(eC:∀ i,i<n->p i=false):dM 17 [.sl nl n 7 el,.fn g cap] (bP false):=by
 exact tr false Tryz.call17 Tryz.func17 (chain [.c (aak nl n el g cap p hp hl eC:dM 51 [(.sl nl n 7 el),(.fn g cap)] _),tB 8 ( ag :(decide ((0:Int)<=(-1)))=false)]<|.nil) ah 
theorem Ht(nl:Bool)(n:Nat)(el:Nat->Nat->E)(g:FuncId)(cap:List E)(p:Nat->Bool)(hp:∀ i,i<n->dM g ((.agg [(el i 0),(el i 1),(el i 2),(el i 3),(el i 4),(el i 5),(el i 6)])::cap) (bP (p i)))(hl:n<=1000000):dM 17 [.sl nl n 7 el,.fn g cap] (bP ((List.range n).any p)):=by
 by_cases h:∃ i,i<n/\p i=true
 .obtain ⟨N,h1,h2,h3⟩:∃ N,N<n/\p N=true/\∀ i,i<N->p i=false:=oK h
  refine(aaj nl n el g cap p hp N hl h1 h3 h2).fu (.of_eq ?_);rw[cX.2 ⟨N,bt.2 h1,h2⟩]
 .refine (wA nl n el g cap p hp hl fun i hi=>by simpa using fun q=>h ⟨i,hi,q⟩).fu (.of_eq ?_)
  rw[dv.2 fun i hi q=>h ⟨i,bt.1 hi,q⟩]
theorem adS(nl:Bool)(n:Nat)(el:Nat->Nat->E)(g:FuncId)(cap:List E)(p:Nat->Bool)(hp:∀ i,i<n->dM g ((el i 0)::cap) (bP (p i)))(hl:n<=1000000)(eC:∀ i,i<n->p i=false):dM 176 [.sl nl n 1 el,.fn g cap] (iP (-1)):=by
 exact tr false Tryz.call176 Tryz.func176 (chain [.s (Sp.upto (QC nl n el g cap) 0 n ae (fun i hi mN=>by
    exact eu (chain [tT 9 ((i:Int)<(n:Int)) ae,iX ((i:Int)) (n) ae,.c (hp i ae :dM g ((el i 0)::cap) _),tB 16 (eC i ae :(p i)=false),eh ((i:Int)+1) ae]<|.nil) ah)
  (fun hi=>by
    exact eu (chain [tF 9 ((n:Int)<(n:Int)) ae]<|.nil) ah) ak :fP 2 Tryz.f176 (QC nl n el g cap 0) (.exit 0) ⟨19,false,[],[]⟩) .nil]<|.nil) ah 
theorem adQ(nl:Bool)(n:Nat)(el:Nat->Nat->E)(g:FuncId)(cap:List E)(p:Nat->Bool)(hp:∀ i,i<n->dM g ((el i 0)::cap) (bP (p i)))(hl:n<=1000000)(eC:∀ i,i<n->p i=false):dM 143 [.sl nl n 1 el,.fn g cap] (bP false):=by
 exact tr false Tryz.call143 Tryz.func143 (chain [.c (adS nl n el g cap p hp hl eC:dM 176 [(.sl nl n 1 el),(.fn g cap)] _),tB 8 ( ag :(decide ((0:Int)<=(-1)))=false)]<|.nil) ah 
end Go.Proofs.YtdgnpeddgdclhaaGreatDoor
