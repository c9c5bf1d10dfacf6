/- Lemmas that the last file uses. -/
import Derived.Test.YtkjkcjhacddojaaGreatDoorM01
import Derived.Deep.DeepCutAuto
import Derived.Deep.Slices
import Derived.Carry
import Derived.Scope
set_option linter.unusedSimpArgs false
set_option linter.unusedVariables false
set_option linter.defProp false
set_option maxHeartbeats 4000000
open Go.Proofs.Tryz
namespace Go.Proofs.YtkjkcjhacddojaaGreatDoor
open Go.RowKit Fp
def K9(n c:Nat)(hc:n<=c)(hn:c<=10000000000)(w:World):
 (Instr.makeSlice 37 (.int .i64 (n:Int)) (.int .i64 (c:Int))).run prog w = .ok (.slice (some ⟨w.heap.size,0,none⟩) n c) (w.alloc (.cells (nJ (List.replicate c 0)).toArray 150)):=by
 obtain⟨i,hi,hz,h1,h2⟩:=info_parts KN;have hr:=run_make (P:=prog) w 37 150 i _ underlying37 hi hz .i64 .i64 n c aD aD (by rw[h2];omega) aD;rw[hr,fD,fD,h1,bW];refine congrArg (λcs=>Result.ok (Value.slice (some ⟨w.heap.size,0,none⟩) n c) (w.alloc (.cells cs 150))) ?_;apply Array.ext
 .simp [madeCells,nJ]
 .intro i h1 h2;simp[madeCells,nJ,Value.cells,cT]
def Ow.wi(w:World)(base n c:Nat)(hb:base<=w.heap.size)(hc:n<=c)(hn:c<=10000000000):
 Ow (w.alloc (.cells (nJ (List.replicate c 0)).toArray 150)) base (.slice (some ⟨w.heap.size,0,none⟩) n c) (List.replicate n 0):=
 ⟨⟨by simp[nJ],.inr ⟨w.heap.size,c,_,aJ,hb,heap_alloc_new w _,by simpa using hc,by simp only[maxLen];omega,by simp[nJ],by
  simp[nJ,List.take_replicate,df hc]⟩⟩,iw.AH n⟩
def iu.own{w w1 w2:World}(h:iu w w1)(v:Value)(L:List Nat)(ho:Ow w1 w.heap.size v L)(hg:w1.grownBy w2 v.ownBlock):iu w w2:=
 h.grown hg h.size (λk hk=>(ho.row.lt k hk).1)
def Mr(x q s:Nat)(hx:x<4294967296)(hs:s<32)(hq:q<2^s):
 bits BinOp.or IntKind.u64 (IntKind.u64.wrap ((x:Int)*2^s)) (q:Int)=((x*2^s+q:Nat):Int)/\x*2^s+q<18446744073709551616/\(x*2^s+q)/4294967296<2^s:=by
 have hp:2^s<=2^31:=bG aF aD;have e31:(2:Nat)^31=2147483648:= aF ;have h1:(x+1)*2^s<=4294967296*2^s:=bL _ hx;rw[bT,bX]at h1;have h2:x*2^s<4294967296*2^s:=cO hx (bu aF);refine⟨?_,aD,aD⟩;have e:((x:Int)*2^s)=((x*2^s:Nat):Int):= aJ ;rw[e,IntKind.wrap_u64,show((x*2^s:Nat):Int)%18446744073709551616=((x*2^s:Nat):Int)by omega,Ij _ _ aD aD,fL,yL q x s hq,ej]
def adD(A:Option Addr)(c:Nat)(L:List Nat)(n:Nat)(w:World)(hs:Sl w A c L)(hlen:L.length<=100000000)(hn:n<=65536):
 Calls prog 275 #[.slice A L.length c,.int .i64 n] w (λe w'=>∃ T,val T=val L*2^n/\iw T/\T.length=n/32+(gT L).length+1/\rN w T e w'):=by
 have hT:=akw (tu A c L w hs);have kr:=hs.sN;have nd:=n9 L;have hC:=kr.cap;have hL:=hs.pg;unfold lI at nd;have hv:=akw (oc L);generalize gT L=M at *
 obtain⟨m,hm⟩:∃ m,m=M.length:=⟨_,rfl⟩
 rw[<-hm]at hT nd hC;have HM:=akw hm;clear hm;have oz:=K9 (n/32) (n/32+m+1) aD aD;rw[show((n/32:Nat):Int)=n/32 by omega,show((n/32+m+1:Nat):Int)=n/32+m+1 by omega]at oz;have C3:=akw (Ow.wi w w.heap.size (n/32) (n/32+m+1) (bp _) aD aD);go_enter func275,ntmps275;go_wp2_with fail;refine hT.out.mono ?_;rintro e w' ⟨rfl,rfl⟩;go_wp2;go_loopw [5,6,23] (λv cy i wr=>∃ (k q:Nat) (O:List Nat),k<=m/\i = .int .i64 k/\cy = .int .u64 q/\q<2^(n%32)/\O.length=n/32+k/\val O+4294967296^(n/32+k)*q=val (M.take k)*2^(n%32)*4294967296^(n/32)/\Ow wr w.heap.size v O/\iu w wr) (λ_ _ i _=>m-(intOf i).toNat)
 case atStart=>
  exact⟨0,0,List.replicate (n/32) 0,b6 _,rfl,rfl,bu aF,aJ,by simp[xP],C3.out,iu.alloc _ _⟩
 case round=>
  obtain⟨k,q,O,hk,rfl,rfl,hq,hO,kR,kW,hb⟩:=hrel;have HV:=akw kR;have HO:=akw hO;have C2:O.length<=200000000:= aD ;have s9:=akw hq;clear kR hO hq;obtain⟨OA,Oc,rfl,xl⟩:=kW.sl;by_cases iE:k<m
  .have ot:k<M.length:=by have:=HM.out;omega
   obtain⟨ab,ao,rfl,_,c1⟩:=(kr.below hb).k0 ot;have mi:M[k]<4294967296:=kr.ok.get ot;have HX:=akw (Mq (c:=q) (s:=n%32) (n0:=n/32) ot HO.out HV.out);generalize M[k]=x at *
   obtain⟨hw,xq,sB⟩:=Mr x q (n%32) mi (bA _ aF) s9.out;generalize x*2^(n%32)+q=z at *
   have Dr:=akw sB;clear sB;have lf:O.length+[z%4294967296].length<=10000000000:= aR ;go_wp2_with (at_builtin;go_must (refine qb aI _ _ aI w.heap.size _ O aI (kW.alloc _) _ _ _ [z%4294967296] aI aI (Sl.r6 _ _ (z%4294967296) aD aD) lf (pf hb.size _) ?_);intro v' w1 nV hg oj)
   go_roundw
   case rel=>
    exact⟨k+1,z/4294967296,O++[z%4294967296],aD,by go_num,by go_num,Dr.out,by rw[cv,HO.out];rfl,HX.out,nV,(hb.trans (iu.alloc _ _)).own _ _ (kW.alloc _) hg⟩
   case measure=>simp[intOf];omega
  .obtain rfl:k=m:= aD ;have lf:O.length+[q].length<=10000000000:= aR ;have Gh:q<4294967296:=by
    have:=s9.out;have hp:2^(n%32)<=2^31:=bG aF aD;have e31:(2:Nat)^31=2147483648:= aF ;omega
   have QV:(q:Int)%4294967296=q:= aD ;go_wp2_with (at_builtin;go_must (refine qb aI _ _ aI w.heap.size _ O aI (kW.alloc _) _ _ _ [q] aI aI (Sl.r6 _ _ q aD aD) lf (pf hb.size _) ?_);intro v' w1 nV hg oj)
   obtain⟨A',c',rfl,ns⟩:=nV.sl;go_ret;refine⟨O++[q],?_,ns.ok,by rw[cv,HO.out,<-HM.out];rfl,A',c',rfl,ns,(hb.trans (iu.alloc _ _)).own _ _ (kW.alloc _) hg⟩;have h:=HV.out;rw[cG (by rw[HM.out];exact bp _)]at h;rw[tH,HO.out,pC,xN,cH,bK,h,<-hv.out,nB,bw,<-bq];congr 2;omega
def Li(A:Option Addr)(c:Nat)(L:List Nat)(n:Nat)(w:World)(hs:Sl w A c L)(hlen:L.length<=256)(hn:n<=65536)(nO:(gK (val L*2^n)).length<=256):
 Calls prog 219 #[.slice A L.length c,.int .i64 n] w (AV w (gK (val L*2^n)) 0):=by
 have H1:=akw (λw (h:Sl w A c L)=>adD A c L n w h aD hn);obtain⟨R,hR⟩:∃ R,R=gK (val L*2^n):=⟨_,rfl⟩
 rw[<-hR]at nO ⊢;have HR:=akw hR;clear hR;go_enter func219,ntmps219;go_wp2_with fail;refine(K5 _ A _ c _ false (MR _ _ _ _) aR).mono ?_;rintro e w' ⟨rfl,rfl⟩;go_wp2_with fail;refine(H1.out _ (hs.alloc _)).mono ?_;rintro e w' ⟨T,hT,C5,-,A',c',rfl,ns,hb⟩;have h3:=akw (show gT T=R by rw[qJ C5,hT,HR.out]);clear hT C5;go_wp2_with fail;refine(DX A' c' T _ ns (by rw[h3.out];exact nO)).mono ?_;rintro e w'' ⟨A'',c'',rfl,pH,mf⟩;go_wp2;go_ret2;rw[<-h3.out];exact⟨A'',c'',rfl,pH,(iu.alloc _ _).trans (hb.trans mf)⟩
def ahz(A:Option Addr)(c:Nat)(L:List Nat)(n:Nat)(w:World)(hs:Sl w A c L)(hlen:L.length<=256)(hn:n<=65536)(nO:(gK (val L*2^n)).length<=256):
 Calls prog 266 #[.slice A L.length c,.int .i64 n] w (rN w (gK (val L*2^n))):=by
 have H1:=akw (Li A c L n w hs hlen hn nO);generalize gK (val L*2^n)=R at *
 go_enter func266,ntmps266;go_wp2_with fail;refine H1.out.mono ?_;rintro e w'' ⟨A'',c'',rfl,pH,mf⟩;go_wp2;go_ret;exact⟨A'',c'',rfl,pH,mf⟩
def MC(a b:Nat)(ha:a<18446744073709551616)(hb:b<18446744073709551616):bits .and .u64 (a:Int) (b:Int)=((a &&& b:Nat):Int):=by
 have hx:a &&& b<2^64:=fi _ aD;have h1:(BitVec.ofInt 64 (a:Int)).toNat=a:=by
  rw[gp,gq];exact bJ aD 
 have h2:(BitVec.ofInt 64 (b:Int)).toNat=b:=by
  rw[gp,gq];exact bJ aD 
 show IntKind.u64.wrap ((BitVec.ofInt 64 (a:Int) &&& BitVec.ofInt 64 (b:Int)).toNat:Int)=_;rw[BitVec.toNat_and,h1,h2,IntKind.wrap_u64];omega
def uR(z:Nat)(hz:z<18446744073709551616):bits BinOp.and IntKind.u64 (z:Int) 4294967295=(z:Int)%4294967296:=by
 have e:(4294967295:Int)=((4294967295:Nat):Int):=rfl;rw[e,MC z _ hz aD,show(4294967295:Nat)=2^32-1 by decide,akr];simp
def agn(A:Option Addr)(c:Nat)(M:List Nat)(n:Nat)(w:World)(kr:Sl w A c M)(hlen:M.length<=1000)(hn:n<=65536):
 Calls prog 246 #[.slice A M.length c,.int .i64 n] w (rN w (gK (val M*2^n))):=by
 have hC:=kr.cap;have hL:=kr.pg;obtain⟨m,hm⟩:∃ m,m=M.length:=⟨_,rfl⟩
 rw[<-hm]at hlen hC ⊢;have HM:=akw hm;clear hm;have oz:=K9 (n/32) (n/32) aD aD;rw[show((n/32:Nat):Int)=n/32 by omega]at oz;have C3:=akw (Ow.wi w w.heap.size (n/32) (n/32) (bp _) aD aD);go_enter func246,ntmps246;go_wp2;go_loopw [5,6,7] (λv cy i wr=>∃ (k q:Nat) (O:List Nat),k<=m/\i = .int .i64 k/\cy = .int .u64 q/\q<2^(n%32)/\O.length=n/32+k/\val O+4294967296^(n/32+k)*q=val (M.take k)*2^(n%32)*4294967296^(n/32)/\Ow wr w.heap.size v O/\iu w wr) (λ_ _ i _=>m-(intOf i).toNat)
 case atStart=>
  exact⟨0,0,List.replicate (n/32) 0,b6 _,rfl,rfl,bu aF,aJ,by simp[xP],C3.out,iu.alloc _ _⟩
 case round=>
  obtain⟨k,q,O,hk,rfl,rfl,hq,hO,kR,kW,hb⟩:=hrel;have HV:=akw kR;have HO:=akw hO;have C2:O.length<=3100:= aD ;have s9:=akw hq;clear kR hO hq;obtain⟨OA,Oc,rfl,xl⟩:=kW.sl;by_cases iE:k<m
  .have ot:k<M.length:=by have:=HM.out;omega
   obtain⟨ab,ao,rfl,_,c1⟩:=(kr.below hb).k0 ot;have mi:M[k]<4294967296:=kr.ok.get ot;have HX:=akw (Mq (c:=q) (s:=n%32) (n0:=n/32) ot HO.out HV.out);generalize M[k]=x at *
   obtain⟨hw,xq,sB⟩:=Mr x q (n%32) mi (bA _ aF) s9.out;generalize x*2^(n%32)+q=z at *
   have Dr:=akw sB;clear sB;have lf:O.length+[z%4294967296].length<=10000000000:= aR ;have s7:=uR z xq;go_wp2_with (at_builtin;go_must (refine qb aI _ _ aI w.heap.size _ O aI (kW.alloc _) _ _ _ [z%4294967296] aI aI (Sl.r6 _ _ (z%4294967296) aD aD) lf (pf hb.size _) ?_);intro v' w1 nV hg oj)
   go_roundw
   case rel=>
    exact⟨k+1,z/4294967296,O++[z%4294967296],aD,by go_num,by go_num,Dr.out,by rw[cv,HO.out];rfl,HX.out,nV,(hb.trans (iu.alloc _ _)).own _ _ (kW.alloc _) hg⟩
   case measure=>simp[intOf];omega
  .obtain rfl:k=m:= aD ;have lf:O.length+[q].length<=10000000000:= aR ;have Gh:q<4294967296:=by
    have:=s9.out;have hp:2^(n%32)<=2^31:=bG aF aD;have e31:(2:Nat)^31=2147483648:= aF ;omega
   have QV:(q:Int)%4294967296=q:= aD ;have vd:Hid (gT (O++[q])=gK (val M*2^n)):=by
    show gT (O++[q])=gK (val M*2^n);rw[qJ (kW.ok.append (iw.cons Gh iw.nil))];have h:=HV.out;rw[cG (by rw[HM.out];exact bp _)]at h;rw[tH,HO.out,pC,xN,cH,bK,h,nB,bw,<-bq];congr 3;omega
   go_wp2_with (at_builtin;go_must (refine qb aI _ _ aI w.heap.size _ O aI (kW.alloc _) _ _ _ [q] aI aI (Sl.r6 _ _ q aD aD) lf (pf hb.size _) ?_);intro v' w1 nV hg oj;obtain⟨P,hP⟩:∃ P,P=O++[q]:=⟨_,rfl⟩;rw[<-hP]at nV vd;have FQ:P.length<=3101:=(by rw[hP];simp;omega);clear hP;obtain⟨A',c',rfl,ns⟩:=nV.sl)
   refine(AG A' c' P _ ns aD).mono ?_;rintro e w' ⟨A'',c'',rfl,pH,mf⟩;go_wp2;go_ret;rw[<-vd.out];exact⟨A'',c'',rfl,pH,((hb.trans (iu.alloc _ _)).own _ _ (kW.alloc _) hg).trans mf⟩
def ahJ(x y s:Nat)(hx:x<4294967296)(hy:y<4294967296):
 bits BinOp.and IntKind.u64 (bits BinOp.or IntKind.u64 (x:Int) ((y:Int)*4294967296)/2^s) 4294967295=(((x+4294967296*y)/2^s%4294967296:Nat):Int):=by
 have e:((y:Int)*4294967296)=((y*2^32:Nat):Int):= aJ ;rw[e,Ij x (y*2^32) aD aD,yL x y 32 aD];have h:(x+y*2^32)/2^s<18446744073709551616:=cC (cz _ _) aD;have h2:=uR _ h;rw[show(((x+y*2^32:Nat):Int)/2^s)=(((x+y*2^32)/2^s:Nat):Int)by simp,h2];simp[bB]
def ahI(x s:Nat)(hx:x<4294967296):bits BinOp.and IntKind.u64 ((x:Int)/2^s) 4294967295=(((x+4294967296*0)/2^s%4294967296:Nat):Int):=by
 have h:x/2^s<18446744073709551616:=cC (cz _ _) aD;rw[show((x:Int)/2^s)=((x/2^s:Nat):Int)by simp,uR _ h];simp
def agu(A:Option Addr)(c:Nat)(M:List Nat)(n:Nat)(w:World)(kr:Sl w A c M)(hlen:M.length<=3000)(hn:n<=100000):
 Calls prog 263 #[.slice A M.length c,.int .i64 n] w (rN w (gK (val M/2^n))):=by
 have hC:=kr.cap;have hL:=kr.pg;have vd:Hid (gT (pS (n%32) (M.drop (n/32)))=gK (val M/2^n)):=by
  show _=_;rw[qJ (D4 _ _),MF kr.ok]
 obtain⟨R,hR⟩:∃ R,R=gK (val M/2^n):=⟨_,rfl⟩
 rw[<-hR]at vd ⊢;clear hR;obtain⟨m,hm⟩:∃ m,m=M.length:=⟨_,rfl⟩
 rw[<-hm]at hlen hC ⊢;have HM:=akw hm;clear hm;by_cases h0:m<=n/32
 .go_enter func263,ntmps263;go_wp2;go_ret;have:M.drop (n/32)=[]:=dZ (by rw[<-HM.out];exact h0);have h:=vd.out;rw[this]at h;rw[<-h];exact⟨none,0,rfl,Sl.nil _,iu.refl _⟩
 .obtain ⟨ab,ao,rfl,_,_⟩:=kr.k0 (i:=0) (by have:=HM.out;omega);have hK:=kr.drop (n/32);have sV:=akw (show m-n/32=(M.drop (n/32)).length by rw[eE,HM.out]);have qW:n/32<c:= aD ;have mA:0<m-n/32:= aD ;have qd:m-n/32<=3000:= aD ;generalize M.drop (n/32)=K at *
  simp only[cL,zh]at hK;have uW:=akw (Hz (n%32) K);have JW:=akw (VH (n%32) K);have C5:=akw (D4 (n%32) K);generalize pS (n%32) K=T at *
  go_enter func263,ntmps263;go_wp2;go_loopw [5,6] (λv i wr=>∃ (k:Nat) (O:List Nat),k<=m-n/32/\i = .int .i64 k/\O=T.take k/\Ow wr w.heap.size v O/\iu w wr) (λ_ i _=>m-n/32-(intOf i).toNat)
  case atStart=>
   exact⟨0,[],b6 _,rfl,aJ,Ow.nil _ _,iu.refl _⟩
  case round=>
   obtain⟨k,O,hk,rfl,hO,kW,hb⟩:=hrel;have C2:O.length<=3000:=by rw[hO,cj];omega
   have HO:=akw hO;clear hO;obtain⟨OA,Oc,rfl,xl⟩:=kW.sl;by_cases iE:k<m-n/32
   .have sZ:k<K.length:=by have:=sV.out;omega
    obtain⟨ab',ao',e',_,c1⟩:=(hK.below hb).k0 sZ;cases e';have hg:=JW.out k sZ;have mi:K[k]<4294967296:=hK.ok.get sZ;have HK:=akw (bt sZ);by_cases yl:k+1<m-n/32
    .have xh:k+1<K.length:=by have:=sV.out;omega
     obtain⟨ab',ao',e',_,c2⟩:=(hK.below hb).k0 xh;cases e';have hy:K.getD (k+1) 0=K[k+1]:=by rw[bn,bt xh];rfl
     rw[hy]at hg;have oK:K[k+1]<4294967296:=hK.ok.get xh;have HG:=akw hg;clear hg hy;generalize K[k]=x at *
     generalize K[k+1]=y at *
     clear sZ xh;have hw:=ahJ x y (n%32) mi oK;have hz:(x+4294967296*y)/2^(n%32)%4294967296<4294967296:=bA _ aF;generalize (x+4294967296*y)/2^(n%32)%4294967296=z at *
     have lf:O.length+[z].length<=10000000000:= aR ;go_wp2_with (at_builtin;go_must (refine qb aI _ _ aI w.heap.size _ O aI (kW.alloc _) _ _ _ [z] aI aI (Sl.r6 _ _ z aD aD) lf (pf hb.size _) ?_);intro v' w1 nV hg oj)
     go_roundw
     case rel=>
      exact⟨k+1,O++[z],aD,by go_num,by rw[HO.out,aj5,HG.out];rfl,nV,(hb.trans (iu.alloc _ _)).own _ _ (kW.alloc _) hg⟩
     case measure=>simp[intOf];omega
    .have hy:K.getD (k+1) 0=0:=by rw[bn,bR (by have:=sV.out;omega)];rfl
     rw[hy]at hg;have HG:=akw hg;clear hg hy;generalize K[k]=x at *
     clear sZ;have hw:=ahI x (n%32) mi;have hz:(x+4294967296*0)/2^(n%32)%4294967296<4294967296:=bA _ aF;generalize (x+4294967296*0)/2^(n%32)%4294967296=z at *
     have lf:O.length+[z].length<=10000000000:= aR ;go_wp2_with (at_builtin;go_must (refine qb aI _ _ aI w.heap.size _ O aI (kW.alloc _) _ _ _ [z] aI aI (Sl.r6 _ _ z aD aD) lf (pf hb.size _) ?_);intro v' w1 nV hg oj)
     go_roundw
     case rel=>
      exact⟨k+1,O++[z],aD,by go_num,by rw[HO.out,aj5,HG.out];rfl,nV,(hb.trans (iu.alloc _ _)).own _ _ (kW.alloc _) hg⟩
     case measure=>simp[intOf];omega
   .have hOT:Hid (gT O=R):=by
     show gT O=R;rw[HO.out,cG (by rw[uW.out,<-sV.out];omega)];exact vd.out
    go_wp2_with fail;refine(AG OA Oc O _ xl aD).mono ?_;rintro e w' ⟨A'',c'',rfl,pH,mf⟩;go_wp2;go_ret;rw[<-hOT.out];exact⟨A'',c'',rfl,pH,hb.trans mf⟩
def yf{L:List Nat}{k:Nat}(h:k<L.length):L.getD k 0=L[k]:=by
 rw[bn,bt h];rfl
def Bd{L:List Nat}{k:Nat}(h:¬k<L.length):L.getD k 0=0:=by
 rw[bn,bR aD];rfl
def agq(A B:Option Addr)(c d:Nat)(L M:List Nat)(w:World)(hs:Sl w A c L)(hr:Sl w B d M)(h1:L.length<=3000)(h2:M.length<=3000):
 Calls prog 247 #[.slice A L.length c,.slice B M.length d] w (rN w (gK (val L+val M))):=by
 have HLl:=akw (rfl:L.length=L.length);obtain⟨l,hl⟩:∃ l,l=L.length:=⟨_,rfl⟩
 obtain⟨m,hm⟩:∃ m,m=M.length:=⟨_,rfl⟩
 rw[<-hl]at h1 ⊢;rw[<-hm]at h2 ⊢;have HL:=akw hl;have HM:=akw hm;clear hl hm HLl;go_enter func247,ntmps247;go_wp2;go_loopw [5,6,7] (λv cy i wr=>∃ (k q:Nat) (O:List Nat),(k<=l\/k<=m)/\i = .int .i64 k/\cy = .int .u64 q/\q<=1/\O.length=k/\val O+4294967296^k*q=val (L.take k)+val (M.take k)/\Ow wr w.heap.size v O/\iu w wr) (λ_ _ i _=>3000-(intOf i).toNat)
 case atStart=>exact⟨0,0,[],.inl (b6 _),rfl,rfl,aF,rfl,aJ,Ow.nil _ _,iu.refl _⟩
 case round=>
  obtain⟨k,q,O,hk,rfl,rfl,hq,hO,kR,kW,hb⟩:=hrel;have HS:=akw (W0 (x:=L.getD k 0) (y:=M.getD k 0) hO kR (tI L k) (tI M k));have HV:=akw kR;have HO:=akw hO;have C2:O.length<=3000:= aD ;have Kp:k<=3000:= aD ;clear kR hO hk;obtain⟨OA,Oc,rfl,xl⟩:=kW.sl;have s7:=λz:Nat=>λh:z<8589934593=>uR z aD 
  by_cases hl:k<l
  .have QK:(k:Int)<l:= aD ;have s5:k<L.length:=by have:=HL.out;omega
   obtain⟨ab,ao,rfl,_,c1⟩:=(hs.below hb).k0 s5;have mi:L[k]<4294967296:=hs.ok.get s5;rw[yf s5]at HS;generalize L[k]=x at *
   clear s5;by_cases hm:k<m
   .have Ga:(k:Int)<m:= aD ;have ot:k<M.length:=by have:=HM.out;omega
    obtain⟨bb,bo,rfl,_,c2⟩:=(hr.below hb).k0 ot;have oK:M[k]<4294967296:=hr.ok.get ot;rw[yf ot]at HS;generalize M[k]=y at *
    clear ot;have oz:=s7 (q+x+y) aD;simp only[eG]at oz;clear s7;have lf:O.length+[(q+x+y)%4294967296].length<=10000000000:= aR ;go_wp2_with (at_builtin;go_must (refine qb aI _ _ aI w.heap.size _ O aI (kW.alloc _) _ _ _ [(q+x+y)%4294967296] aI aI (Sl.r6 _ _ ((q+x+y)%4294967296) aD aD) lf (pf hb.size _) ?_);intro v' w1 nV hg oj)
    go_roundw
    case rel=>
     exact⟨k+1,(q+x+y)/4294967296,O++[(q+x+y)%4294967296],aD,by go_num,by go_num,aD,by rw[cv,HO.out];rfl,HS.out,nV,(hb.trans (iu.alloc _ _)).own _ _ (kW.alloc _) hg⟩
    case measure=>simp[intOf];omega
   .have Ga:¬(k:Int)<m:= aD ;rw[Bd (by have:=HM.out;omega)]at HS;have oz:=s7 (q+x+0) aD;simp only[eG,bK]at oz;clear s7;have lf:O.length+[(q+x+0)%4294967296].length<=10000000000:= aR ;go_wp2_with (at_builtin;go_must (refine qb aI _ _ aI w.heap.size _ O aI (kW.alloc _) _ _ _ [(q+x+0)%4294967296] aI aI (Sl.r6 _ _ ((q+x+0)%4294967296) aD aD) lf (pf hb.size _) ?_);intro v' w1 nV hg oj)
    go_roundw
    case rel=>
     exact⟨k+1,(q+x+0)/4294967296,O++[(q+x+0)%4294967296],aD,by go_num,by go_num,aD,by rw[cv,HO.out];rfl,HS.out,nV,(hb.trans (iu.alloc _ _)).own _ _ (kW.alloc _) hg⟩
    case measure=>simp[intOf];omega
  .have QK:¬(k:Int)<l:= aD ;have hlF:decide ((k:Int)<l)=false:=by simpa using QK
   rw[Bd (L:=L) (by have:=HL.out;omega)]at HS;by_cases hm:k<m
   .have Ga:(k:Int)<m:= aD ;have ot:k<M.length:=by have:=HM.out;omega
    obtain⟨bb,bo,rfl,_,c2⟩:=(hr.below hb).k0 ot;have oK:M[k]<4294967296:=hr.ok.get ot;rw[yf ot]at HS;generalize M[k]=y at *
    clear ot;have oz:=s7 (q+0+y) aD;simp only[eG,bK]at oz;clear s7;have lf:O.length+[(q+0+y)%4294967296].length<=10000000000:= aR ;go_wp2_with (at_builtin;go_must (refine qb aI _ _ aI w.heap.size _ O aI (kW.alloc _) _ _ _ [(q+0+y)%4294967296] aI aI (Sl.r6 _ _ ((q+0+y)%4294967296) aD aD) lf (pf hb.size _) ?_);intro v' w1 nV hg oj)
    go_roundw
    case rel=>
     exact⟨k+1,(q+0+y)/4294967296,O++[(q+0+y)%4294967296],aD,by go_num,by go_num,aD,by rw[cv,HO.out];rfl,HS.out,nV,(hb.trans (iu.alloc _ _)).own _ _ (kW.alloc _) hg⟩
    case measure=>simp[intOf];omega
   .have Ga:¬(k:Int)<m:= aD ;clear s7;have Gh:(q:Int)%4294967296=q:= aD ;have vd:Hid (gT (O++[q])=gK (val L+val M)):=by
     show gT (O++[q])=_;rw[qJ (kW.ok.append (iw.cons aD iw.nil)),tH,HO.out];have h:=HV.out;rw[cG (by have:=HL.out;omega),cG (by have:=HM.out;omega)]at h;simp only[pC,xN,cH,bK];rw[h]
    have lf:O.length+[q].length<=10000000000:= aR ;go_wp2_with (at_builtin;go_must (refine qb aI _ _ aI w.heap.size _ O aI (kW.alloc _) _ _ _ [q] aI aI (Sl.r6 _ _ q aD aD) lf (pf hb.size _) ?_);intro v' w1 nV hg oj;obtain⟨P,hP⟩:∃ P,P=O++[q]:=⟨_,rfl⟩;rw[<-hP]at nV vd;have FQ:P.length<=3001:=(by rw[hP];simp;omega);clear hP;obtain⟨A',c',rfl,ns⟩:=nV.sl)
    refine(AG A' c' P _ ns aD).mono ?_;rintro e w' ⟨A'',c'',rfl,pH,mf⟩;go_wp2;go_ret;rw[<-vd.out];exact⟨A'',c'',rfl,pH,((hb.trans (iu.alloc _ _)).own _ _ (kW.alloc _) hg).trans mf⟩
def aiJ(x s:Nat)(hx:x<4294967296):bits BinOp.and IntKind.u32 ((x:Int)/2^s) 1=((x/2^s%2:Nat):Int):=by
 have h:x/2^s<4294967296:=cC (cz _ _) aD;rw[show((x:Int)/2^s)=((x/2^s:Nat):Int)by simp,show(1:Int)=((1:Nat):Int)from rfl,bits_and_u32_nat _ _ h aF,gv]
def agD(A:Option Addr)(c:Nat)(L:List Nat)(w:World)(hs:Sl w A c L)(h1:L.length<=3000)(h0:val L≠0):
 Calls prog 262 #[.slice A L.length c] w λe w'=>e = .returned (.int .i64 (jY (val L)))/\w=w':=by
 have hz:=CK hs.ok h0;have HB:=akw (λk (hk:k<jY (val L))=>Nx h0 hk);have HE:=akw (Nw h0);have HV:=akw (λk=>IT hs.ok k);generalize jY (val L)=t at *
 go_enter func262,ntmps262;go_wp2;go_loop [3] (λi=>∃ k:Nat,k<=t/\i = .int .i64 k) (λi=>t-(intOf i).toNat)
 case atStart=>exact⟨0,b6 _,rfl⟩
 case round=>
  obtain⟨k,hk,rfl⟩:=hrel;have s5:k/32<L.length:= aD ;obtain⟨ab,ao,rfl,_,c1⟩:=hs.k0 s5;have hv:=HV.out k s5;have mi:L[k/32]<4294967296:=hs.ok.get s5;generalize L[k/32]=x at *
  clear HV;have ss:=aiJ x (k%32) mi;rw[<-hv]at ss;clear hv;by_cases hkt:k<t
  .rw [HB.out k hkt]at ss;have hb:(bits BinOp.and IntKind.u32 ((x:Int)/2^(k%32)) 1==0)=true:=by rw[ss];rfl
   clear ss;go_wp2;go_round
   case rel=>exact⟨k+1,aD,by go_num⟩
   case measure=>simp[intOf];omega
  .obtain rfl:k=t:= aD ;rw[HE.out]at ss;have hb:(bits BinOp.and IntKind.u32 ((x:Int)/2^(k%32)) 1==0)=false:=by rw[ss];rfl
   clear ss;go_wp2;go_ret;exact⟨rfl,rfl⟩
def ago(A B:Option Addr)(c d:Nat)(L M:List Nat)(w:World)(hs:Sl w A c L)(hr:Sl w B d M)(h1:L.length<=3000)(h2:M.length<=L.length)(hle:val M<=val L):
 Calls prog 248 #[.slice A L.length c,.slice B M.length d] w (rN w (gK (val L-val M))):=by
 obtain⟨l,hl⟩:∃ l,l=L.length:=⟨_,rfl⟩
 obtain⟨m,hm⟩:∃ m,m=M.length:=⟨_,rfl⟩
 rw[<-hl]at h1 h2 ⊢;rw[<-hm]at h2 ⊢;have HL:=akw hl;have HM:=akw hm;clear hl hm;have HLE:=akw hle;clear hle;go_enter func248,ntmps248;go_wp2;go_loopw [5,6,7] (λv cy i wr=>∃ (k q:Nat) (O:List Nat),k<=l/\i = .int .i64 k/\cy = .int .u64 q/\q<=1/\O.length=k/\val O+val (M.take k)=val (L.take k)+4294967296^k*q/\Ow wr w.heap.size v O/\iu w wr) (λ_ _ i _=>l-(intOf i).toNat)
 case atStart=>exact⟨0,0,[],b6 _,rfl,rfl,aF,rfl,aJ,Ow.nil _ _,iu.refl _⟩
 case round=>
  obtain⟨k,q,O,hk,rfl,rfl,hq,hO,kR,kW,hb⟩:=hrel;have HS:=akw (λ(x y:Nat) (e1:L.getD k 0=x) (e2:M.getD k 0=y) (dd c':Nat)=>ah2 (x:=x) (y:=y) (d:=dd) (c':=c') hO kR ((tI L k).trans (by rw[e1])) ((tI M k).trans (by rw[e2])));have HV:=akw kR;have HO:=akw hO;have C2:O.length<=3000:= aD ;clear kR hO;obtain⟨OA,Oc,rfl,xl⟩:=kW.sl;by_cases hl:k<l
  .have s5:k<L.length:=by have:=HL.out;omega
   obtain⟨ab,ao,rfl,_,c1⟩:=(hs.below hb).k0 s5;have mi:L[k]<4294967296:=hs.ok.get s5;have HX:=akw (yf s5);generalize L[k]=x at *
   clear s5;by_cases hm:k<m
   .have ot:k<M.length:=by have:=HM.out;omega
    obtain⟨bb,bo,rfl,_,c2⟩:=(hr.below hb).k0 ot;have oK:M[k]<4294967296:=hr.ok.get ot;have HY:=akw (yf ot);generalize M[k]=y at *
    clear ot;have oz:=uR (x+4294967296-(q+y)) aD;rw[show((x+4294967296-(q+y):Nat):Int)=x+4294967296-(q+y)by omega]at oz;have lf:O.length+[(x+4294967296-(q+y))%4294967296].length<=10000000000:= aR ;go_wp2_with (at_builtin;go_must (refine qb aI _ _ aI w.heap.size _ O aI (kW.alloc _) _ _ _ [(x+4294967296-(q+y))%4294967296] aI aI (Sl.r6 _ _ ((x+4294967296-(q+y))%4294967296) aD aD) lf (pf hb.size _) ?_);intro v' w1 nV hg oj)
    go_roundw
    case rel=>
     exact⟨k+1,1-(x+4294967296-(q+y))/4294967296,O++[(x+4294967296-(q+y))%4294967296],aD,by go_num,by rw[show(1-((x:Int)+4294967296-(q+y))/4294967296)=((1-(x+4294967296-(q+y))/4294967296:Nat):Int)by omega],aD,by rw[cv,HO.out];rfl,HS.out x y HX.out HY.out _ _ aD,nV,(hb.trans (iu.alloc _ _)).own _ _ (kW.alloc _) hg⟩
    case measure=>simp[intOf];omega
   .have Ga:¬(k:Int)<m:= aD ;have HY:=akw (Bd (L:=M) (k:=k) (by have:=HM.out;omega));have oz:=uR (x+4294967296-q) aD;rw[show((x+4294967296-q:Nat):Int)=x+4294967296-q by omega]at oz;have lf:O.length+[(x+4294967296-q)%4294967296].length<=10000000000:= aR ;go_wp2_with (at_builtin;go_must (refine qb aI _ _ aI w.heap.size _ O aI (kW.alloc _) _ _ _ [(x+4294967296-q)%4294967296] aI aI (Sl.r6 _ _ ((x+4294967296-q)%4294967296) aD aD) lf (pf hb.size _) ?_);intro v' w1 nV hg oj)
    go_roundw
    case rel=>
     exact⟨k+1,1-(x+4294967296-q)/4294967296,O++[(x+4294967296-q)%4294967296],aD,by go_num,by rw[show(1-((x:Int)+4294967296-q)/4294967296)=((1-(x+4294967296-q)/4294967296:Nat):Int)by omega],aD,by rw[cv,HO.out];rfl,HS.out x 0 HX.out HY.out _ _ aD,nV,(hb.trans (iu.alloc _ _)).own _ _ (kW.alloc _) hg⟩
    case measure=>simp[intOf];omega
  .obtain rfl:k=l:= aD ;have vd:Hid (gT O=gK (val L-val M)):=by
    show gT O=_;have h:=HV.out;rw[cG (l:=L) (by have:=HL.out;omega),cG (l:=M) (by have:=HM.out;omega)]at h;rw[qJ kW.ok,(V1 kW.ok HO.out h HLE.out).2]
   go_wp2_with fail;refine(AG OA Oc O _ xl aD).mono ?_;rintro e w' ⟨A'',c'',rfl,pH,mf⟩;go_wp2;go_ret;rw[<-vd.out];exact⟨A'',c'',rfl,pH,hb.trans mf⟩
def Le{O:List Nat}{p a b c o:Nat}(ho:O[p]? = some o):
 val (O.set p ((a*b+o+c)%4294967296))+4294967296^(p+1)*((a*b+o+c)/4294967296)=val O+4294967296^p*c+4294967296^p*(a*b):=by
 obtain⟨hp,rfl⟩:=cg.1 ho;have h:=ME (x:=(a*b+O[p]+c)%4294967296) hp;have e:=congrArg (4294967296^p * ·) (dC (a*b+O[p]+c) 4294967296);simp only[bH]at e;rw[bE,bw];omega
def I1{O:List Nat}{p c o:Nat}(ho:O[p]? = some o):
 val (O.set p ((o+c)%4294967296))+4294967296^(p+1)*((o+c)/4294967296)=val O+4294967296^p*c:=by
 have h:=Le (a:=0) (b:=0) (c:=c) ho;simpa using h
def X8{i n k N c:Nat}{O a b:List Nat}(hk:val O+4294967296^k*c=val (a.take (i+1))*val b)(ha:iw a)(hb:iw b)(hi:i<a.length)(hn:b.length=n)(hc:0<c)(hN:a.length+n<N):k<N:=by
 have h1:=lW (ha.take (i+1));rw[cj,df aD]at h1;have h2:=lW hb;rw[hn]at h2;have h3:val (a.take (i+1))*val b<4294967296^(i+1+n):=by
  rw[bq];exact gw h1 h2
 have h4:4294967296^k*1<=4294967296^k*c:=cA _ hc;have h5:4294967296^k<4294967296^(i+1+n):= aD ;have:=(akj (aF:1<4294967296)).1 h5;omega
def aiO(x y:Nat)(hx:x<4294967296)(hy:y<4294967296):IntKind.u64.wrap ((x:Int)*(y:Int))=((x*y:Nat):Int)/\x*y<=18446744065119617025:=by
 have h:x*y<=4294967295*4294967295:=di aD aD;refine⟨?_,aD⟩;rw[IntKind.wrap_u64,<-dQ];omega
def oH(x:Nat)(h:x<18446744073709551616):IntKind.u64.wrap (x:Int)=x:=by rw[IntKind.wrap_u64];omega
def Fp.iw.Hv{L:List Nat}(h:iw L)(k:Nat)(x:Nat):iw (L.set k (x%4294967296)):=h.set k (bA _ aF)
def agz(A B:Option Addr)(c d:Nat)(L M:List Nat)(w:World)(hs:Sl w A c L)(hr:Sl w B d M)(h1:L.length<=3000)(h2:M.length<=3000):
 Calls prog 305 #[.slice A L.length c,.slice B M.length d] w (rN w (gK (val L*val M))):=by
 obtain⟨l,hl⟩:∃ l,l=L.length:=⟨_,rfl⟩
 obtain⟨m,hm⟩:∃ m,m=M.length:=⟨_,rfl⟩
 rw[<-hl]at h1 ⊢;rw[<-hm]at h2 ⊢;have HL:=akw hl;have HM:=akw hm;clear hl hm;have oz:=BK (l+m+1) aD;rw[show((l+m+1:Nat):Int)=l+m+1 by omega]at oz;have ug:=akw (Rw.wi w (l+m+1));go_enter func305,ntmps305;go_wp2;go_loopw [6] (λi wr=>∃ (k:Nat) (O:List Nat),k<=l/\i = .int .i64 k/\O.length=l+m+1/\iw O/\val O=val (L.take k)*val M/\Rw wr w.heap.size O/\iu w wr) (λi _=>l-(intOf i).toNat)
 case atStart=>
  exact⟨0,List.replicate (l+m+1) 0,b6 _,rfl,aJ,iw.AH _,by simp[xP],ug.out,iu.alloc _ _⟩
 case round=>
  obtain⟨i,O,hi,rfl,hO,kf,kR,hR,hb⟩:=hrel;have HV:=akw kR;have HO:=akw hO;clear kR hO;by_cases iE:i<l
  .have F2:i<L.length:=by have:=HL.out;omega
   obtain⟨x,hx⟩:∃ x,x=L[i]:=⟨_,rfl⟩
   have HX:=akw hx;have mi:x<4294967296:=by rw[hx];exact hs.ok.get F2
   have HXc:=akw (λw (h:Sl w A c L)=>hx▸h.k0 F2);clear hx;have HST:=akw (show val (L.take (i+1))=val (L.take i)+4294967296^i*x by rw[HX.out];exact wL L i F2);clear HX F2;go_wp2;obtain⟨wo,rfl⟩:∃ wo:World,wo=wr:=⟨_,rfl⟩
   go_loopw [7,8] (λcy k wr=>∃ (j q:Nat) (O:List Nat),j<=m/\k = .int .i64 j/\cy = .int .u64 q/\q<4294967296/\O.length=l+m+1/\iw O/\val O+4294967296^(i+j)*q=val (L.take i)*val M+4294967296^i*(x*val (M.take j))/\Rw wr w.heap.size O/\iu w wr) (λ_ k _=>m-(intOf k).toNat)
   case atStart=>
    exact⟨0,0,O,b6 _,rfl,rfl,aF,HO.out,kf,by simp[HV.out],hR,hb⟩
   case round=>
    clear HO HV kf hR;obtain⟨j,q,O,hj,rfl,rfl,hq,hO,kf,kR,hR,hb⟩:=hrel;have HV:=akw kR;have HO:=akw hO;clear kR hO;by_cases yl:j<m
    .have F4:j<M.length:=by have:=HM.out;omega
     obtain⟨y,hy⟩:∃ y,y=M[j]:=⟨_,rfl⟩
     have oK:y<4294967296:=by rw[hy];exact hr.ok.get F4
     obtain⟨ab,ao,e1,_,c1⟩:=HXc.out _ (hs.below hb);obtain⟨bb,bo,e2,_,c2⟩:=(hr.below hb).k0 F4;have HYS:=akw (show val (M.take (j+1))=val (M.take j)+4294967296^j*y by rw[hy];exact wL M j F4);rw[<-hy]at c2;clear hy F4 HXc;subst e1 e2;have hp:i+j<O.length:=by have:=HO.out;omega
     have ho:=bt hp;have abP:O[i+j]<4294967296:=kf.get hp;have c3:=hR.cell ho;have c4:=hR.frozen (i+j);have HS:=akw (Le (a:=x) (b:=y) (c:=q) ho);generalize O[i+j]=o at *
     clear ho hp;have Gg:=λv=>kf.Hv (i+j) v
     have HR2:=akw (λv:Nat=>hR.set (i+j) v);have HE2:=akw (λ(n:Nat) (v:Value)=>(below_drewN hb n).setCell (p:=⟨w.heap.size,i+j,none⟩) (bp _) v);have HOK:=akw Gg;have HNEW:=akw (show val (L.take i)*val M+4294967296^i*(x*val (M.take (j+1)))=val (L.take i)*val M+4294967296^i*(x*val (M.take j))+4294967296^(i+j)*(x*y)by
      rw[HYS.out,bH x,bH (4294967296^i),bq,cP];congr 2;rw[cW x,bw])
     obtain⟨zW,yu⟩:=aiO x y mi oK;generalize x*y=z at *
     have xq:IntKind.u64.wrap ((z:Int)+o)=(z:Int)+o:=by rw[IntKind.wrap_u64];omega
     have sB:IntKind.u64.wrap ((z:Int)+o+q)=(z:Int)+o+q:=by rw[IntKind.wrap_u64];omega
     have s7:=uR (z+o+q) aD;simp only[eG]at s7;have vW:IntKind.i64.wrap ((i:Int)+j)=(i:Int)+j:=i64_in _ aD aD;have sX:(0:Int)<=i+j:= aD ;have QH:((i:Int)+j).toNat=i+j:= aD ;have hi4:(i:Int)+j<l+m+1:= aD ;go_wp2;go_quiet (fail);go_wp2;go_roundw
     case rel=>
      exact⟨j+1,(z+o+q)/4294967296,O.set (i+j) ((z+o+q)%4294967296),aD,by go_num,by go_num,aD,by rw[cI];exact HO.out,HOK.out _,by rw[HNEW.out,<-HV.out];exact HS.out,HR2.out _,HE2.out _ _⟩
     case measure=>simp[intOf];omega
    .obtain rfl:j=m:= aD ;have HV2:=akw (show val O+4294967296^(i+j)*q=val (L.take (i+1))*val M by
      rw[HST.out,HV.out,show M.take j=M from cG (by rw[HM.out];exact bp _),bT,bw])
     clear HV;go_wp2;obtain⟨wo,rfl⟩:∃ wo:World,wo=wr:=⟨_,rfl⟩
     go_loopw [7,10] (λcy k wr=>∃ (p q:Nat) (O:List Nat),p<=l+j+1/\k = .int .i64 p/\cy = .int .u64 q/\q<4294967296/\O.length=l+j+1/\iw O/\val O+4294967296^p*q=val (L.take (i+1))*val M/\Rw wr w.heap.size O/\iu w wr) (λ_ k _=>l+j+1-(intOf k).toNat)
     case atStart=>
      exact⟨i+j,q,O,aD,by go_num,rfl,hq,HO.out,kf,HV2.out,hR,hb⟩
     case round=>
      clear HO HV2 kf hR hq;obtain⟨p,q,O,hp,rfl,rfl,hq,hO,kf,kR,hR,hb⟩:=hrel;have HV:=akw kR;have HO:=akw hO;clear kR hO;by_cases hc:0<q
      .have hpN:p<l+j+1:=X8 HV.out hs.ok hr.ok (by have:=HL.out;omega) HM.out.symm hc (by have:=HL.out;omega);have Ky:p<O.length:=by have:=HO.out;omega
       have ho:=bt Ky;have abP:O[p]<4294967296:=kf.get Ky;have c3:=hR.cell ho;have c4:=hR.frozen p;have HS:=akw (I1 (c:=q) ho);generalize O[p]=o at *
       clear ho Ky;have HR2:=akw (λv:Nat=>hR.set p v);have HE2:=akw (λv:Value=>hb.setCell (p:=⟨w.heap.size,p,none⟩) (bp _) v);have HOK:=akw (λv=>kf.Hv p v);have s7:=uR (o+q) aD;simp only[eG]at s7;have By:decide ((q:Int)>0)=true:=bk aD;have s9:decide (0<q)=true:=bk hc;go_wp2;go_roundw
       case rel=>
        exact⟨p+1,(o+q)/4294967296,O.set p ((o+q)%4294967296),aD,by go_num,by go_num,aD,by rw[cI];exact HO.out,HOK.out _,by rw[<-HV.out];exact HS.out,HR2.out _,HE2.out _⟩
       case measure=>simp[intOf];omega
      .obtain rfl:q=0:= aD ;go_wp2;go_roundw
       case rel=>
        exact⟨i+1,O,aD,by go_num,HO.out,kf,by rw[<-HV.out];simp,hR,hb⟩
       case measure=>simp[intOf];omega
  .obtain rfl:i=l:= aD ;have HF:=akw (show gT O=gK (val L*val M)by
    rw[qJ kf,HV.out,show L.take i=L from cG (by rw[HL.out];exact bp _)])
   have sA:=hR.sl kf (by rw[HO.out];omega);obtain⟨n,hn⟩:∃ n,n=O.length:=⟨_,rfl⟩
   have jO:i+m+1=n:=by rw[hn];exact HO.out.symm
   have hT:=akw (AG _ _ O _ sA (by rw[HO.out];omega));rw[HO.out]at hT;clear hn jO;go_wp2_with fail;refine hT.out.mono ?_;rintro e w' ⟨A'',c'',rfl,pH,mf⟩;go_wp2;go_ret;rw[<-HF.out];exact⟨A'',c'',rfl,pH,hb.trans mf⟩
def Ek(s:Bool)(A:Option Addr)(c:Nat)(L:List Nat)(e:Int)(w:World)(hs:Sl w A c L)(hlen:L.length<=3000)(lh:-1000000<=e)(kF:e<=1000000):
 Calls prog 186 #[.bool s,.slice A L.length c,.int .i64 e] w (sO w (canon s (val L) e)):=by
 by_cases h0:val L=0
 .have n5:=akw (show canon s (val L) e=ix by unfold canon;rw[bj h0];rfl);have KF:gT L=[]:=by rw[qJ hs.ok,h0,nt]
  have hT:=akw (λw (h:Sl w A c L)=>AG A c L w h aD);rw[KF]at hT;clear KF h0;go_enter func186,ntmps186;go_wp2_with fail;refine(hT.out _ (hs.alloc _)).mono ?_;rintro e w' ⟨A',c',rfl,ns,hb⟩;have bx:=(ju.new w false none 0 0 0).ext hb;have b0:=bx.c0;have b1:=bx.c1;have b2:=bx.c2;have f0:=bx.fr 0;have f1:=bx.fr 1;have f2:=bx.fr 2;go_wp2;rw[n5.out];have hz:gK ix.m=[]:=nt;exact rT rfl rfl rfl (bx.set _ _ _ _ _) (by rw[hz];rfl) (by rw[hz];exact bx.sM (Sl.nil _) _ _ _ _ _) (ju.sc ((iu.alloc _ _).trans hb) (bp _) _ _ _ _ _)
 .have n5:=akw (show canon s (val L) e=⟨s,val L/2^jY (val L),e+jY (val L)⟩by unfold canon;rw[bh h0]);have hT:=akw (λw (h:Sl w A c L)=>AG A c L w h aD);have ht1:=n9 L;unfold lI at ht1;have hv:=oc L;have kf:=hs.ok.gT;generalize gT L=M at *
  rw[<-hv]at h0 n5 ⊢;clear hv;have hZ:=akw (λA c w (h:Sl w A c M)=>agD A c M w h aD h0);have yk:jY (val M)<=100000:=by have:=CK kf h0;omega
  have hR:=akw (λA c w (h:Sl w A c M)=>agu A c M (jY (val M)) w h aD yk);have uV:M.length≠0:=by intro h;rw[dq h]at h0;exact h0 rfl
  generalize val M/2^jY (val M)=q at *
  generalize jY (val M)=t at *
  obtain⟨m,hm⟩:∃ m,m=M.length:=⟨_,rfl⟩
  go_enter func186,ntmps186;go_wp2_with fail;refine(hT.out _ (hs.alloc _)).mono ?_;rintro e' w1 ⟨A1,c1,rfl,rY,kJ⟩;go_wp2_with fail;refine(hZ.out _ _ _ rY).mono ?_;rintro e' w2 ⟨rfl,rfl⟩;go_wp2_with fail;refine(hR.out _ _ _ rY).mono ?_;rintro e' w2 ⟨A2,c2,rfl,kr,mB⟩;have hb:=kJ.trans mB;have bx:=(ju.new w false none 0 0 0).ext hb;have b0:=bx.c0;have b1:=bx.c1;have b2:=bx.c2;have f0:=bx.fr 0;have f1:=bx.fr 1;have f2:=bx.fr 2;go_wp2;rw[n5.out];exact rT rfl rfl rfl (bx.set _ _ _ _ _) rfl (bx.sM kr _ _ _ _ _) (ju.sc ((iu.alloc _ _).trans hb) (bp _) _ _ _ _ _)
def Zh(A:Option Addr)(c:Nat)(L:List Nat)(w:World)(hs:Sl w A c L)(h1:L.length<=3000)(h0:val L≠0)(hT:Tb w):
 Calls prog 300 #[.slice A L.length c] w λe w'=>e = .returned (.int .i64 (jY (val L)))/\w=w':=by
 have kf:=hs.ok;have HV:=akw (λi hi h hx=>Yx kf i hi h hx);have H0:=akw h0;clear h0;go_enter func300,ntmps300;go_wp2;go_loop [3,8] (λn i=>∃ k:Nat,k<=L.length/\i = .int .i64 k/\n = .int .i64 ((32*k:Nat):Int)/\∀ j,(hj:j<k)->L[j]? = some 0) (λ_ i=>L.length-(intOf i).toNat)
 case atStart=>exact⟨0,b6 _,rfl,rfl,λj hj=> aD⟩
 case round=>
  obtain⟨k,hk,rfl,rfl,hz⟩:=hrel;have HZ:=akw hz;clear hz;by_cases iE:k<L.length
  .obtain ⟨ab,ao,rfl,_,c1⟩:=hs.k0 iE;have mi:L[k]<4294967296:=kf.get iE;have HG:=akw (bt iE);have HC:=akw (λhx=>HV.out k iE (λj hj=>by have:=HZ.out j hj;rw[bt aD]at this;simpa using this) hx);clear HV;generalize L[k]=x at *
   by_cases hx:x=0
   .have HX:=akw hx;clear hx;have hb:((x:Int) != 0)=false:=by have:=HX.out;simp;omega
    go_wp2;go_round
    case rel=>exact⟨k+1,aD,by go_num,by go_num,λj hj=>by
     by_cases e:j=k
     .subst e;rw[HG.out,HX.out]
     .exact HZ.out j aD⟩
    case measure=>simp[intOf];omega
   .have hb:((x:Int) != 0)=true:= aR ;have HX:=akw (HC.out hx);have ajo:jY x<=32:=by
     have h1:=G1 hx;rcases dO 32 (jY x)with h|h
     .have:=eH (a:=2) aF h;have e:(2:Nat)^32=4294967296:= aF ;omega
     .exact h
    go_wp2_with (go_at_call 355;refine(aiG x hx mi _ hT).mono ?_;rintro e w' ⟨rfl,rfl⟩)
    go_ret;exact⟨nS (by rw[HX.out];simp),rfl⟩
  .exfalso;have:val L=0:=by
    rw[EB];intro y hy;obtain⟨j,hj,rfl⟩:=ajS hy;have:=HZ.out j aD;rw[bt hj]at this;simpa using this
   exact H0.out this
def Ft(s:Bool)(A:Option Addr)(c:Nat)(L:List Nat)(e:Int)(w:World)(hs:Sl w A c L)(_hlen:L.length<=100000)(nd:(gT L).length<=256)(lh:-1000000<=e)(kF:e<=1000000)(qy:Tb w):
 Calls prog 255 #[.bool s,.slice A L.length c,.int .i64 e] w (sO w (canon s (val L) e)):=by
 have hT:=akw (λw (h:Sl w A c L)=>Zl A c L w h);have kr:=hs.sN;have hv:=oc L;have kf:=hs.ok.gT;have zT:=xM L;generalize gT L=M at *
 rw[<-hv];clear hv;by_cases h0:val M=0
 .have n5:=akw (show canon s (val M) e=ix by unfold canon;rw[bj h0];rfl);have uV:Hid (M.length=0):=by
   show M.length=0;rw[zT.CS kf,h0,nt];rfl
  obtain⟨m,hm⟩:∃ m,m=M.length:=⟨_,rfl⟩
  rw[<-hm]at hT uV;clear hm h0;obtain rfl:m=0:=uV.out;clear uV;go_enter func255,ntmps255;go_wp2_with fail;refine(hT.out _ (hs.alloc _)).mono ?_;rintro e w' ⟨rfl,rfl⟩;have bx:=ju.new w false none 0 0 0;have b0:=bx.c0;have b1:=bx.c1;have b2:=bx.c2;have f0:=bx.fr 0;have f1:=bx.fr 1;have f2:=bx.fr 2;go_wp2;rw[n5.out];have hz:gK ix.m=[]:=nt;exact rT rfl rfl rfl bx (by rw[hz];rfl) (by rw[hz];exact Sl.nil _) (iu.alloc _ _)
 .have n5:=akw (show canon s (val M) e=⟨s,val M/2^jY (val M),e+jY (val M)⟩by unfold canon;rw[bh h0]);have hZ:=akw (λA c w (h:Sl w A c M) (ht:Tb w)=>Zh A c M w h aD h0 ht);have yk:jY (val M)<=65536:=by have:=CK kf h0;omega
  have hR:=akw (λA c w (h:Sl w A c M)=>SM A c M (jY (val M)) w h nd yk);have uV:M.length≠0:=by intro h;rw[dq h]at h0;exact h0 rfl
  have uo:(gK (val M/2^jY (val M))).length<=256:=by
   refine qi (cC (cz _ _) ?_);exact bN (lW kf) (bG aF nd)
  generalize val M/2^jY (val M)=q at *
  generalize jY (val M)=t at *
  have hK:=akw (λA c w (h:Sl w A c (gK q))=>I4 A c (gK q) w h aD);have hP:=akw (λA c w (h:Sl w A c (gK q))=>I3 A c (gK q) w h);obtain⟨Q,hQ⟩:∃ Q,Q=gK q:=⟨_,rfl⟩
  have HQ:=akw hQ;rw[<-hQ]at hR hK hP uo;clear hQ;go_enter func255,ntmps255;go_wp2_with fail;refine(hT.out _ (hs.alloc _)).mono ?_;rintro e' w1 ⟨rfl,rfl⟩;go_wp2_with fail;refine(hZ.out _ _ _ (kr.alloc _) (qy.alloc _)).mono ?_;rintro e' w2 ⟨rfl,rfl⟩;go_wp2_with fail;refine(hR.out _ _ _ (kr.alloc _)).mono ?_;rintro e' w2 ⟨A2,c2,rfl,abT,mB⟩;go_wp2_with fail;refine(hK.out _ _ _ abT).mono ?_;rintro e' w3 ⟨A3,c3,rfl,BA,oY⟩;go_wp2_with fail;refine(hP.out _ _ _ BA).mono ?_;rintro e' w4 ⟨rfl,rfl⟩;have hb:=mB.trans oY;have bx:=(ju.new w false none 0 0 0).ext hb;have b0:=bx.c0;have b1:=bx.c1;have b2:=bx.c2;have f0:=bx.fr 0;have f1:=bx.fr 1;have f2:=bx.fr 2;go_wp2;rw[n5.out];rw[HQ.out]at BA ⊢;exact rT rfl rfl rfl (bx.set _ _ _ _ _) rfl (bx.sM BA.NV _ _ _ _ _) (ju.sc ((iu.alloc _ _).trans hb) (bp _) _ _ _ _ _)
def Jj(A:Option Addr)(c:Nat)(L:List Nat)(w:World)(hs:Sl w A c L)(hlen:L.length<=100000000):
 Calls prog 245 #[.slice A L.length c] w λe w'=>e = .returned (.int .i64 (gU (val L)))/\w=w':=by
 have H:=akw (SE A c L w hs hlen);go_enter func245,ntmps245;go_wp2_with fail;refine H.out.mono ?_;rintro e w' ⟨rfl,rfl⟩;go_wp2;go_ret;exact⟨rfl,rfl⟩
def vo(m:Nat)(e:Int):Bool:=decide (pe ⟨false,m,e⟩)
def Rp(s:Bool)(A:Option Addr)(c:Nat)(L:List Nat)(e:Int)(w:World)(hs:Sl w A c L)(hlen:L.length<=100000000)(lh:-9223372036854775808<=e)(kF:e<=9223372036854775807):
 Calls prog 167 #[.agg #[.bool s,.slice A L.length c,.int .i64 e]] w λr w'=>r = .returned (.bool (vo (val L) e))/\iu w w':=by
 have H:=akw (λw (h:Sl w A c L)=>Jj A c L w h hlen);have hn:Hid (vo (val L) e=decide (gU (val L)=0\/gU (val L)<=4096 /\ -16384<=e/\e<=16384/\(gU (val L):Int)+e<=16384)):=by
  have h:gU (val L)=0↔val L=0:=by
   constructor
   .intro h;apply bY;intro h0;have:=mZ h0;omega
   .intro h;rw[h];rfl
  exact aj6.2 (or_congr h.symm Iff.rfl)
 have wZ:gU (val L)<=32*L.length:=kB.2 (by rw[<-nB];exact lW hs.ok);generalize gU (val L)=n at *
 generalize vo (val L) e=b at *
 have rU:n=0\/(0<n/\4096<n)\/(0<n/\n<=4096/\e < -16384)\/(0<n/\n<=4096 /\ -16384<=e/\16384<e)\/(0<n/\n<=4096 /\ -16384<=e/\e<=16384/\16384<(n:Int)+e)\/(0<n/\n<=4096 /\ -16384<=e/\e<=16384/\(n:Int)+e<=16384):= aD ;rcases rU with h|⟨h,h1⟩|⟨h,h1,h2⟩|⟨h,h1,h2,h3⟩|⟨h,h1,h2,h3,h4⟩|⟨h,h1,h2,h3,h4⟩
 .subst h;have hb:b=true:=by rw[hn.out];simp
  clear hn;subst hb;go_enter func167,ntmps167;go_wp2_with fail;refine(H.out _ (hs.alloc _)).mono ?_;rintro r w' ⟨rfl,rfl⟩;go_wp2;go_ret;exact⟨rfl,iu.alloc _ _⟩
 .have hb:b=false:=by rw[hn.out];simp;omega
  have rW:((n:Int)==0)=false:= aR ;have rz:decide ((n:Int)<=4096)=false:= aR ;clear hn;subst hb;go_enter func167,ntmps167;go_wp2_with fail;refine(H.out _ (hs.alloc _)).mono ?_;rintro r w' ⟨rfl,rfl⟩;go_wp2;go_ret;exact⟨rfl,iu.alloc _ _⟩
 .have hb:b=false:=by rw[hn.out];simp;omega
  have rW:((n:Int)==0)=false:= aR ;have rz:decide ((n:Int)<=4096)=true:= aR ;have jO:decide (-16384<=e)=false:= aR ;clear hn;subst hb;go_enter func167,ntmps167;go_wp2_with fail;refine(H.out _ (hs.alloc _)).mono ?_;rintro r w' ⟨rfl,rfl⟩;go_wp2;go_ret;exact⟨rfl,iu.alloc _ _⟩
 .have hb:b=false:=by rw[hn.out];simp;omega
  have rW:((n:Int)==0)=false:= aR ;have rz:decide ((n:Int)<=4096)=true:= aR ;have jO:decide (-16384<=e)=true:= aR ;have Bs:decide (e<=16384)=false:= aR ;clear hn;subst hb;go_enter func167,ntmps167;go_wp2_with fail;refine(H.out _ (hs.alloc _)).mono ?_;rintro r w' ⟨rfl,rfl⟩;go_wp2;go_ret;exact⟨rfl,iu.alloc _ _⟩
 .have hb:b=false:=by rw[hn.out];simp;omega
  have rW:((n:Int)==0)=false:= aR ;have rz:decide ((n:Int)<=4096)=true:= aR ;have jO:decide (-16384<=e)=true:= aR ;have Bs:decide (e<=16384)=true:= aR ;have hn4:decide ((n:Int)+e<=16384)=false:= aR ;clear hn;subst hb;go_enter func167,ntmps167;go_wp2_with fail;refine(H.out _ (hs.alloc _)).mono ?_;rintro r w' ⟨rfl,rfl⟩;go_wp2;go_ret;exact⟨rfl,iu.alloc _ _⟩
 .have hb:b=true:=by rw[hn.out];simp;omega
  have rW:((n:Int)==0)=false:= aR ;have rz:decide ((n:Int)<=4096)=true:= aR ;have jO:decide (-16384<=e)=true:= aR ;have Bs:decide (e<=16384)=true:= aR ;have hn4:decide ((n:Int)+e<=16384)=true:= aR ;clear hn;subst hb;go_enter func167,ntmps167;go_wp2_with fail;refine(H.out _ (hs.alloc _)).mono ?_;rintro r w' ⟨rfl,rfl⟩;go_wp2;go_ret;exact⟨rfl,iu.alloc _ _⟩
def od(s:Bool)(L:List Nat)(e:Int):Prop:=mG L/\L.length<=256/\Dy.gQ ⟨s,val L,e⟩
def OF(s:Bool)(e:Int):od s [] e↔s=false/\e=0:=by
 unfold od;constructor
 .rintro ⟨_,_,hc,_⟩;rcases hc with⟨_,h1,h2⟩|h
  .exact ⟨h1,h2⟩
  .simp at h
 .rintro ⟨rfl,rfl⟩;exact⟨mG.nil,aJ,re⟩
def OE{s:Bool}{L:List Nat}{e:Int}{x y:Nat}(hx:L[0]? = some x)(hy:L[L.length-1]? = some y):
 od s L e↔L.length<=256/\x%2=1/\y≠0/\vo (val L) e=true:=by
 have QT:val L%2=x%2:=by
  cases L with
  |nil=>simp at hx
  |cons z l=>simp at hx;subst hx;simp only[pC];omega
 have zT:mG L↔y≠0:=by
  rw[y4];obtain⟨h1,h2⟩:=cg.1 hy;constructor
  .intro h;rw[<-h2];exact h aD 
  .intro h _;rw[h2];exact h
 unfold od vo;rw[zT,gy];constructor
 .rintro ⟨h1,h2,hc,hr⟩;have vm:pe ⟨false,val L,e⟩:=hr;refine⟨h2,?_,h1,vm⟩;rcases hc with⟨h,_,_⟩|h
  .exfalso;have:=(zT.2 h1).xO (by intro h0;subst h0;simp at hx);simp only at h;omega
  .rw [<-QT];exact h
 .rintro ⟨h1,h2,h3,h4⟩;exact⟨h3,h1,.inr (by show val L%2=1;rw[QT];exact h2),h4⟩
def pG{b:Bool}{P:Prop}(h:b=true↔P)(hn:¬P):b=false:=by
 cases b
 .rfl
 .exact absurd (h.1 rfl) hn
def IQ{b:Bool}{P:Prop}(h:b=true↔P)(hn:P):b=true:=h.2 hn
def Ns{b v:Bool}{P:Prop}(h:b=true↔P)(hn:P↔v=true):b=v:=by
 cases b<;>cases v<;>simp_all
def zx(s:Bool)(A:Option Addr)(c:Nat)(L:List Nat)(e:Int)(w:World)(b:Bool)(hs:Sl w A c L)(lh:-9223372036854775808<=e)(kF:e<=9223372036854775807)(hb:b=true↔od s L e):
 Calls prog 92 #[.agg #[.bool s,.slice A L.length c,.int .i64 e]] w λr w'=>r = .returned (.bool b)/\iu w w':=by
 have Bj:=hs.cap;have yk:=hs.pg;by_cases hL:L=[]
 .subst hL;rw[OF]at hb;cases s
  .by_cases h:e=0
   .subst h;have:b=true:=by simpa using hb
    clear hb;subst this;go_enter func92,ntmps92;go_wp2;go_ret;exact⟨rfl,iu.alloc _ _⟩
   .have:b=false:=pG hb (by simp[h]);have h':(e==0)=false:= aR ;clear hb;subst this;go_enter func92,ntmps92;go_wp2;go_ret;exact⟨rfl,iu.alloc _ _⟩
  .have:b=false:=pG hb aJ ;clear hb;subst this;go_enter func92,ntmps92;go_wp2;go_ret;exact⟨rfl,iu.alloc _ _⟩
 .have rX:0<L.length:=eo.2 hL;clear hL;obtain⟨ab,ao,rfl,_,c1⟩:=hs.k0 rX;obtain⟨ab',ao',e',_,c2⟩:=hs.k0 (i:=L.length-1) aD;cases e';have mi:=hs.ok.get rX;have oK:=hs.ok.get (aD:L.length-1<L.length);rw[OE (bt rX) (bt (aD:L.length-1<L.length))]at hb;have c1':w.cell? ⟨ab,ao,none⟩=some (.int .u32 (L[0]:Int)):=c1;clear c1;generalize L[0]=x at *
  generalize L[L.length-1]=y at *
  have HB:=akw hb;clear hb;have H:=akw (λw (h:Sl w (some ⟨ab,ao,none⟩) c L) (hl:L.length<=256)=>Rp s _ c L e w h aD lh kF);obtain⟨n,hn⟩:∃ n,n=L.length:=⟨_,rfl⟩
  rw[<-hn]at rX c2 H HB Bj ⊢;clear hn;generalize vo (val L) e=v at *
  have rW:((n:Int)==0)=false:= aR ;by_cases h1:n<=256
  .have rz:decide ((n:Int)<=256)=true:= aR ;by_cases h2:x%2=1
   .have jO:((x:Int)%2==1)=true:= aR ;by_cases h3:y=0
    .have:b=false:=pG HB.out (by simp[h3]);have Bs:((y:Int) != 0)=false:= aR ;clear HB;subst this;go_enter func92,ntmps92;go_wp2;go_ret;exact⟨rfl,iu.alloc _ _⟩
    .have:b=v:=Ns HB.out (by simp[h1,h2,h3]);have Bs:((y:Int) != 0)=true:= aR ;clear HB;subst this;go_enter func92,ntmps92;go_wp2_with fail;refine(H.out _ (hs.alloc _) h1).mono ?_;rintro r w' ⟨rfl,mf⟩;go_wp2;go_ret;exact⟨rfl,(iu.alloc _ _).trans mf⟩
   .have:b=false:=pG HB.out (λh=>h2 h.2.1);have jO:((x:Int)%2==1)=false:= aR ;clear HB;subst this;go_enter func92,ntmps92;go_wp2;go_ret;exact⟨rfl,iu.alloc _ _⟩
  .have:b=false:=pG HB.out (λh=>h1 h.1);have rz:decide ((n:Int)<=256)=false:= aR ;clear HB;subst this;go_enter func92,ntmps92;go_wp2;go_ret;exact⟨rfl,iu.alloc _ _⟩
def K3{n k:Nat}(h:gU n<=32*k):(gK n).length<=k:=qi (by rw[nB];exact kB.1 h)
def Y6(d:Dy):od d.neg (gK d.m) d.e↔d.gQ:=by
 unfold od;rw[jR];constructor
 .exact λh=>h.2.2
 .intro h;refine⟨uK _,?_,h⟩;rcases h.range with h0|⟨h1,_⟩
  .rw [h0,nt];simp
  .exact K3 aD 
def od.CS{s:Bool}{L:List Nat}{e:Int}(h:od s L e)(hk:iw L):L=gK (val L):=h.1.CS hk
def od.len{s:Bool}{L:List Nat}{e:Int}(h:od s L e):L.length<=256:=h.2.1
def od.bits{s:Bool}{L:List Nat}{e:Int}(h:od s L e):gU (val L)<=4096:=by
 rcases h.2.2.range with h0|⟨h1,_⟩
 .simp only at h0;rw[h0];decide
 .exact h1
def od.exp{s:Bool}{L:List Nat}{e:Int}(h:od s L e):-16384<=e/\e<=16384:=by
 rcases h.2.2.range with h0|⟨_,h1,h2,_⟩
 .rcases h.2.2.canon with⟨_,_,h3⟩|h3
  .simp only at h3;omega
  .simp only at h0 h3;omega
 .exact ⟨h1,h2⟩
def Jk(s:Bool)(A:Option Addr)(c:Nat)(L:List Nat)(e:Int)(w:World)(hs:Sl w A c L)(hd:od s L e):
 Calls prog 216 #[.agg #[.bool s,.slice A L.length c,.int .i64 e]] w λr w'=>r = .returned (.int .i64 (Dy.jj ⟨s,val L,e⟩))/\iu w w':=by
 obtain⟨lh,kF⟩:=hd.exp;have hl:=hd.len;have FY:=hd.bits;have HV:=akw (λw (h:Sl w A c L)=>zx s A c L e w true h aD aD (by simp[hd]));have HS:=akw (λw (h:Sl w A c L)=>Jj A c L w h aD);by_cases h0:L=[]
 .subst h0;go_enter func216,ntmps216;go_wp2_with fail;refine(HV.out _ (hs.alloc _)).mono ?_;rintro r w' ⟨rfl,hb⟩;have bx:=(ju.new w s A 0 c e).ext hb;have b0:=bx.c0;have b1:=bx.c1;have b2:=bx.c2;go_wp2;go_ret;exact⟨rfl,(iu.alloc _ _).trans hb⟩
 .have rX:0<L.length:=eo.2 h0;have q6:val L≠0:=by have:=hd.1.xO h0;omega
  have ht:=akw (show Dy.jj ⟨s,val L,e⟩=gU (val L)+e by unfold Dy.jj;rw[bh q6]);clear h0 q6;generalize Dy.jj ⟨s,val L,e⟩=t at *
  generalize gU (val L)=q at *
  have hw:IntKind.i64.wrap ((q:Int)+e)=q+e:=i64_in _ aD aD;have rW:((L.length:Int)==0)=false:=a7 aD;go_enter func216,ntmps216;go_wp2_with fail;refine(HV.out _ (hs.alloc _)).mono ?_;rintro r w' ⟨rfl,hb⟩;have bx:=(ju.new w s A L.length c e).ext hb;have b0:=bx.c0;have b1:=bx.c1;have b2:=bx.c2;have ns:=(hs.alloc _).below hb;go_wp2_with fail;go_region_held3 (λw'=>w'.cell? ⟨w.heap.size,1,none⟩=some (.slice A L.length c)/\w'.cell? ⟨w.heap.size,2,none⟩=some (.int .i64 e)) (go_keep)
   (first|(go_at_call 245;refine(HS.out _ ?_).mono ?_;(exact ns.drew);rintro r w'' ⟨rfl,rfl⟩))
  go_wp2;go_ret;exact⟨nS (by rw[ht.out]),Below.drew ((iu.alloc _ _).trans hb)⟩
def Zb(s:Bool)(A:Option Addr)(c:Nat)(L:List Nat)(e:Int)(w:World)(hs:Sl w A c L)(hd:od s L e):
 Calls prog 306 #[.agg #[.bool s,.slice A L.length c,.int .i64 e]] w λr w'=>r = .returned (.int .i64 (gU (val L)))/\iu w w':=by
 obtain⟨lh,kF⟩:=hd.exp;have hl:=hd.len;have HV:=akw (λw (h:Sl w A c L)=>zx s A c L e w true h aD aD (by simp[hd]));have HS:=akw (λw (h:Sl w A c L)=>Jj A c L w h aD);go_enter func306,ntmps306;go_wp2_with fail;refine(HV.out _ (hs.alloc _)).mono ?_;rintro r w' ⟨rfl,hb⟩;have bx:=(ju.new w s A L.length c e).ext hb;have b0:=bx.c0;have b1:=bx.c1;have b2:=bx.c2;go_wp2_with fail;refine(HS.out _ ((hs.alloc _).below hb)).mono ?_;rintro r w' ⟨rfl,rfl⟩;go_wp2;go_ret;exact⟨rfl,(iu.alloc _ _).trans hb⟩
def Ji(s:Bool)(A:Option Addr)(c:Nat)(L:List Nat)(e:Int)(w:World)(hs:Sl w A c L)(hd:od s L e):
 Calls prog 46 #[.agg #[.bool s,.slice A L.length c,.int .i64 e]] w λr w'=>r = .returned (.int .i64 (Dy.jc ⟨s,val L,e⟩))/\iu w w':=by
 obtain⟨lh,kF⟩:=hd.exp;have hl:=hd.len;have HV:=akw (λw (h:Sl w A c L)=>zx s A c L e w true h aD aD (by simp[hd]));by_cases h0:L=[]
 .subst h0;go_enter func46,ntmps46;go_wp2_with fail;refine(HV.out _ (hs.alloc _)).mono ?_;rintro r w' ⟨rfl,hb⟩;have bx:=(ju.new w s A 0 c e).ext hb;have b0:=bx.c0;have b1:=bx.c1;have b2:=bx.c2;go_wp2;go_ret;exact⟨rfl,(iu.alloc _ _).trans hb⟩
 .have rX:0<L.length:=eo.2 h0;have q6:val L≠0:=by have:=hd.1.xO h0;omega
  have ht:=akw (show Dy.jc ⟨s,val L,e⟩=if s then -1 else 1 by unfold Dy.jc;rw[bh q6]);clear h0 q6;generalize Dy.jc ⟨s,val L,e⟩=t at *
  have rW:((L.length:Int)==0)=false:=a7 aD;go_enter func46,ntmps46;go_wp2_with fail;refine(HV.out _ (hs.alloc _)).mono ?_;rintro r w' ⟨rfl,hb⟩;have bx:=(ju.new w s A L.length c e).ext hb;have b0:=bx.c0;have b1:=bx.c1;have b2:=bx.c2;cases s
  .go_wp2;go_ret;exact⟨nS (by rw[ht.out];rfl),(iu.alloc _ _).trans hb⟩
  .go_wp2;go_ret;exact⟨nS (by rw[ht.out];rfl),(iu.alloc _ _).trans hb⟩
def aaa(e:Int)(w:World)(b:Bool)(hb:b=true↔(-32768<=e/\e<=32768)):
 Calls prog 253 #[.int .i64 e] w λr w'=>r = .returned (.bool b)/\w=w':=by
 by_cases h1:-32768<=e
 .have d1:decide (-32768<=e)=true:=by simpa using h1
  by_cases h2:e<=32768
  .have d2:decide (e<=32768)=true:=by simpa using h2
   have:=IQ hb ⟨h1,h2⟩;clear hb;subst this;go_enter func253,ntmps253;go_wp2;go_ret;exact⟨rfl,rfl⟩
  .have d2:decide (e<=32768)=false:=by simpa using h2
   have:=pG hb (λh=>h2 h.2);clear hb;subst this;go_enter func253,ntmps253;go_wp2;go_ret;exact⟨rfl,rfl⟩
 .have d1:decide (-32768<=e)=false:=by simpa using h1
  have:=pG hb (λh=>h1 h.1);clear hb;subst this;go_enter func253,ntmps253;go_wp2;go_ret;exact⟨rfl,rfl⟩
def Yi(d:Dy)(A:Option Addr)(c:Nat)(w:World)(hs:Sl w A c (gK d.m))(hl:(gK d.m).length<=100000000)(lh:-10000000<=d.e)(kF:d.e<=10000000)(hd:pe d):
 Calls prog 254 #[.agg #[.bool d.neg,.slice A (gK d.m).length c,.int .i64 d.e]] w (zf w d 0):=by
 obtain⟨s,m,e⟩:=d;simp only at *
 have hr:vo m e=true:=by unfold vo;exact bk hd
 have HV:=akw (λw (h:Sl w A c (gK m))=>Rp s A c (gK m) e w h hl aD aD);rw[jR,hr]at HV;clear hr hd;go_enter func254,ntmps254;go_wp2_with fail;refine(HV.out _ ((hs.alloc _).alloc _)).mono ?_;rintro r w' ⟨rfl,hb⟩;have bx:=((ju.new w s A (gK m).length c e).alloc (.cells #[.bool false,.slice none 0 0,.int .i64 0] 39)).ext hb;have by_:=(ju.new (w.alloc (.cells #[.bool s,.slice A (gK m).length c,.int .i64 e] 39)) false none 0 0 0).ext hb;have b0:=bx.c0;have b1:=bx.c1;have b2:=bx.c2;have bz:(w.alloc (.cells #[.bool s,.slice A (gK m).length c,.int .i64 e] 39)).heap.size=w.heap.size+1:= aJ ;rw[bz]at by_;have c0:=by_.c0;have c1:=by_.c1;have c2:=by_.c2;have f0:=by_.fr 0;have f1:=by_.fr 1;have f2:=by_.fr 2;have ns:=((hs.alloc (.cells #[.bool s,.slice A (gK m).length c,.int .i64 e] 39)).alloc (.cells #[.bool false,.slice none 0 0,.int .i64 0] 39)).below hb;have mf:iu w w':=((iu.alloc _ _).trans (iu.alloc _ _)).trans hb;clear bz;go_wp2;exact CP rfl rfl rfl rfl (by_.set _ _ _ _ _) rfl (by_.sM ns _ _ _ _ _) (ju.sc mf aD _ _ _ _ _)
def ac9(s:Bool)(A:Option Addr)(c:Nat)(L:List Nat)(e:Int)(w:World)(hs:Sl w A c L)(hlen:L.length<=256)(lh:-32768<=e)(kF:e<=32768)(qy:Tb w)(hd:pe (canon s (val L) e)):
 Calls prog 362 #[.bool s,.slice A L.length c,.int .i64 e] w (zf w (canon s (val L) e) 0):=by
 have vX:decide (256<(L.length:Int))=false:=bl aD;have HE:=akw (λw=>aaa e w true (by simp[lh,kF]));have HC:=akw (λw (h:Sl w A c L) (ht:Tb w)=>Ft s A c L e w h aD (by have:=n9 L;unfold lI at this;omega) aD aD ht);have kJ:(gK (canon s (val L) e).m).length<=100000000:=by
  unfold canon;split
  .simp [nt]
  .refine bM (qi (k:=256) (cC (cz _ _) ?_)) aF ;exact bN (lW hs.ok) (bG aF hlen)
 have mB:-10000000<=(canon s (val L) e).e/\(canon s (val L) e).e<=10000000:=by
  unfold canon;split
  .simp
  .rename_i h0;have:=CK hs.ok h0;simp only;omega
 obtain⟨mB,oY⟩:=mB;have HK:=akw (λA c w (h:Sl w A c (gK (canon s (val L) e).m))=>Yi _ A c w h kJ mB oY hd);generalize canon s (val L) e=d at *
 clear hd kJ mB oY;go_enter func362,ntmps362;go_wp2_with fail;refine(HE.out _).mono ?_;rintro r w' ⟨rfl,rfl⟩;go_wp2_with fail;refine(HC.out _ (hs.alloc _) (qy.alloc _)).mono ?_;rintro r w1 ⟨A1,c1,rfl,rY,kJ⟩;go_wp2_with fail;refine(HK.out _ _ _ rY).mono ?_;rintro r w2 ⟨A2,c2,rfl,kr,mB⟩;have hb:=kJ.trans mB;have bx:=(ju.new w false none 0 0 0).ext hb;have b0:=bx.c0;have b1:=bx.c1;have b2:=bx.c2;have f0:=bx.fr 0;have f1:=bx.fr 1;have f2:=bx.fr 2;go_wp2;exact CP rfl rfl rfl rfl (bx.set _ _ _ _ _) rfl (bx.sM kr _ _ _ _ _) (ju.sc ((iu.alloc _ _).trans hb) (bp _) _ _ _ _ _)
def aiI(x:Nat)(hx:x<4294967296):bits BinOp.and IntKind.u32 (x:Int) 1=((x%2:Nat):Int):=by
 rw[show(1:Int)=((1:Nat):Int)from rfl,bits_and_u32_nat _ _ hx aF,gv]
def ab1{m:Nat}(h0:m≠0)(e:Int):vo m e=true↔(gU m<=4096 /\ -16384<=e/\e<=16384/\(gU m:Int)+e<=16384):=by
 have h:vo m e=true↔pe ⟨false,m,e⟩:=gy;rw[h];constructor
 .rintro (h|h)
  .exact absurd h h0
  .exact h
 .exact λh=>.inr h
def Hh(s:Bool)(A:Option Addr)(c:Nat)(L:List Nat)(e:Int)(w:World)(b:Bool)(hs:Sl w A c L)(lh:-9223372036854775808<=e)(kF:e<=9223372036854775807)(hb:b=true↔od s L e):
 Calls prog 96 #[.agg #[.bool s,.slice A L.length c,.int .i64 e]] w λr w'=>r = .returned (.bool b)/\iu w w':=by
 have Bj:=hs.cap;have yk:=hs.pg;by_cases hL:L=[]
 .subst hL;rw[OF]at hb;cases s
  .by_cases h:e=0
   .subst h;have:b=true:=by simpa using hb
    clear hb;subst this;go_enter func96,ntmps96;go_wp2;go_ret;exact⟨rfl,iu.alloc _ _⟩
   .have:b=false:=pG hb (by simp[h]);have h':(e==0)=false:= aR ;clear hb;subst this;go_enter func96,ntmps96;go_wp2;go_ret;exact⟨rfl,iu.alloc _ _⟩
  .have:b=false:=pG hb aJ ;clear hb;subst this;go_enter func96,ntmps96;go_wp2;go_ret;exact⟨rfl,iu.alloc _ _⟩
 .have rX:0<L.length:=eo.2 hL;obtain⟨ab,ao,rfl,_,c1⟩:=hs.k0 rX;obtain⟨ab',ao',e',_,c2⟩:=hs.k0 (i:=L.length-1) aD;cases e';have mi:=hs.ok.get rX;have oK:=hs.ok.get (aD:L.length-1<L.length);rw[OE (bt rX) (bt (aD:L.length-1<L.length))]at hb;have c1':w.cell? ⟨ab,ao,none⟩=some (.int .u32 (L[0]:Int)):=c1;have FV:=akw (show L[L.length-1]≠0->mG L from λh=>(y4 L).2 (λ_=>h));have uX:=akw (show L[L.length-1]≠0->val L≠0 from λh=>by have:=((y4 L).2 (λ_=>h)).xO hL;omega);clear c1 hL;generalize L[0]=x at *
  generalize L[L.length-1]=y at *
  have HB:=akw hb;clear hb;have H:=akw (λw (h:Sl w (some ⟨ab,ao,none⟩) c L) (hl:L.length<=256) (ht:mG L)=>U6 _ c L w h ht aD);have hr:Hid (val L≠0->(vo (val L) e=true↔(gU (val L)<=4096 /\ -16384<=e/\e<=16384/\(gU (val L):Int)+e<=16384))):=λh0=>by
   exact ab1 h0 e
  obtain⟨n,hn⟩:∃ n,n=L.length:=⟨_,rfl⟩
  rw[<-hn]at rX c2 H HB Bj ⊢;have HN:=akw hn;clear hn;have rW:((n:Int)==0)=false:= aR ;by_cases h1:n<=256
  .have rz:decide (256<(n:Int))=false:=bl aD ;by_cases h3:y=0
   .have:b=false:=pG HB.out (by simp[h3]);have Bs:((y:Int)==0)=true:= aR ;clear HB hr;subst this;go_enter func96,ntmps96;go_wp2;go_ret;exact⟨rfl,iu.alloc _ _⟩
   .have Bs:((y:Int)==0)=false:=a7 aD ;have hand:=aiI x mi;by_cases h2:x%2=1
    .have jO:(bits BinOp.and IntKind.u32 (x:Int) 1==0)=false:=by rw[hand,h2];rfl
     clear hand;have h0:=uX.out h3;have zT:=FV.out h3;have wZ:gU (val L)<=32*n:=kB.2 (by rw[<-nB,HN.out];exact lW hs.ok);have HB2:Hid (b=true↔(gU (val L)<=4096 /\ -16384<=e/\e<=16384/\(gU (val L):Int)+e<=16384)):=by
      show b=true↔_;rw[HB.out,hr.out h0];simp[h1,h2,h3]
     have H2:=akw (λw h=>H.out w h h1 zT);clear HB hr h0 zT FV uX H;generalize gU (val L)=q at *
     by_cases h4:-16384<=e
     .have d4:decide (e < -16384)=false:=bl aD ;by_cases h5:e<=16384
      .have d5:decide (16384<e)=false:=bl aD ;by_cases h6:q<=4096
       .have d6:decide ((q:Int)<=4096)=true:=bk aD ;by_cases h7:(q:Int)+e<=16384
        .have d7:decide ((q:Int)+e<=16384)=true:=bk h7;have:=IQ HB2.out ⟨h6,h4,h5,h7⟩;clear HB2;subst this;go_enter func96,ntmps96;go_wp2_with fail;refine(H2.out _ (hs.alloc _)).mono ?_;rintro r w' ⟨rfl,rfl⟩;go_wp2;go_ret;exact⟨rfl,iu.alloc _ _⟩
        .have d7:decide ((q:Int)+e<=16384)=false:=bl h7;have:=pG HB2.out (λh=>h7 h.2.2.2);clear HB2;subst this;go_enter func96,ntmps96;go_wp2_with fail;refine(H2.out _ (hs.alloc _)).mono ?_;rintro r w' ⟨rfl,rfl⟩;go_wp2;go_ret;exact⟨rfl,iu.alloc _ _⟩
       .have d6:decide ((q:Int)<=4096)=false:=bl aD ;have:=pG HB2.out (λh=>h6 h.1);clear HB2;subst this;go_enter func96,ntmps96;go_wp2_with fail;refine(H2.out _ (hs.alloc _)).mono ?_;rintro r w' ⟨rfl,rfl⟩;go_wp2;go_ret;exact⟨rfl,iu.alloc _ _⟩
      .have d5:decide (16384<e)=true:=bk aD ;have:=pG HB2.out (λh=>h5 h.2.2.1);clear HB2;subst this;go_enter func96,ntmps96;go_wp2;go_ret;exact⟨rfl,iu.alloc _ _⟩
     .have d4:decide (e < -16384)=true:=bk aD ;have:=pG HB2.out (λh=>h4 h.2.1);clear HB2;subst this;go_enter func96,ntmps96;go_wp2;go_ret;exact⟨rfl,iu.alloc _ _⟩
    .have jO:(bits BinOp.and IntKind.u32 (x:Int) 1==0)=true:=by rw[hand,(aD:x%2=0)];rfl
     have:b=false:=pG HB.out (λh=>h2 h.2.1);clear HB hand hr;subst this;go_enter func96,ntmps96;go_wp2;go_ret;exact⟨rfl,iu.alloc _ _⟩
  .have:b=false:=pG HB.out (λh=>h1 h.1);have rz:decide (256<(n:Int))=true:=bk aD;clear HB hr;subst this;go_enter func96,ntmps96;go_wp2;go_ret;exact⟨rfl,iu.alloc _ _⟩
def agj(e:Int)(w:World)(b:Bool)(hb:b=true↔(-32768<=e/\e<=32768)):
 Calls prog 184 #[.int .i64 e] w λr w'=>r = .returned (.bool b)/\w=w':=by
 by_cases h1:-32768<=e
 .have d1:decide (-32768<=e)=true:=by simpa using h1
  by_cases h2:e<=32768
  .have d2:decide (e<=32768)=true:=by simpa using h2
   have:=IQ hb ⟨h1,h2⟩;clear hb;subst this;go_enter func184,ntmps184;go_wp2;go_ret;exact⟨rfl,rfl⟩
  .have d2:decide (e<=32768)=false:=by simpa using h2
   have:=pG hb (λh=>h2 h.2);clear hb;subst this;go_enter func184,ntmps184;go_wp2;go_ret;exact⟨rfl,rfl⟩
 .have d1:decide (-32768<=e)=false:=by simpa using h1
  have:=pG hb (λh=>h1 h.1);clear hb;subst this;go_enter func184,ntmps184;go_wp2;go_ret;exact⟨rfl,rfl⟩
def agf(d:Dy)(A:Option Addr)(c:Nat)(w:World)(hs:Sl w A c (gK d.m))(hl:(gK d.m).length<=100000000)(lh:-10000000<=d.e)(kF:d.e<=10000000)(hd:d.gQ):
 Calls prog 185 #[.agg #[.bool d.neg,.slice A (gK d.m).length c,.int .i64 d.e]] w (zf w d 0):=by
 obtain⟨s,m,e⟩:=d;simp only at *
 have HV:=akw (λw (h:Sl w A c (gK m))=>Hh s A c (gK m) e w true h aD aD (iff_of_true rfl ((Y6 ⟨s,m,e⟩).2 hd)));clear hd;go_enter func185,ntmps185;go_wp2_with fail;refine(HV.out _ ((hs.alloc _).alloc _)).mono ?_;rintro r w' ⟨rfl,hb⟩;have bx:=((ju.new w s A (gK m).length c e).alloc (.cells #[.bool false,.slice none 0 0,.int .i64 0] 39)).ext hb;have by_:=(ju.new (w.alloc (.cells #[.bool s,.slice A (gK m).length c,.int .i64 e] 39)) false none 0 0 0).ext hb;have b0:=bx.c0;have b1:=bx.c1;have b2:=bx.c2;have bz:(w.alloc (.cells #[.bool s,.slice A (gK m).length c,.int .i64 e] 39)).heap.size=w.heap.size+1:= aJ ;rw[bz]at by_;have c0:=by_.c0;have c1:=by_.c1;have c2:=by_.c2;have f0:=by_.fr 0;have f1:=by_.fr 1;have f2:=by_.fr 2;have ns:=((hs.alloc (.cells #[.bool s,.slice A (gK m).length c,.int .i64 e] 39)).alloc (.cells #[.bool false,.slice none 0 0,.int .i64 0] 39)).below hb;have mf:iu w w':=((iu.alloc _ _).trans (iu.alloc _ _)).trans hb;clear bz;go_wp2;exact CP rfl rfl rfl rfl (by_.set _ _ _ _ _) rfl (by_.sM ns _ _ _ _ _) (ju.sc mf aD _ _ _ _ _)
def agx(s:Bool)(A:Option Addr)(c:Nat)(L:List Nat)(e:Int)(w:World)(hs:Sl w A c L)(ht:mG L):
 Calls prog 53 #[.agg #[.bool s,.slice A L.length c,.int .i64 e]] w λr w'=>r = .returned (.int .i64 (Dy.jc ⟨s,val L,e⟩))/\iu w w':=by
 have hl:=hs.len;by_cases h0:L=[]
 .subst h0;go_enter func53,ntmps53;go_wp2;go_ret;exact⟨rfl,iu.alloc _ _⟩
 .have rX:0<L.length:=eo.2 h0;have q6:val L≠0:=by have:=ht.xO h0;omega
  have ht:=akw (show Dy.jc ⟨s,val L,e⟩=if s then -1 else 1 by unfold Dy.jc;rw[bh q6]);clear h0 q6;generalize Dy.jc ⟨s,val L,e⟩=t at *
  have rW:((L.length:Int)==0)=false:=a7 aD;cases s
  .go_enter func53,ntmps53;go_wp2;go_ret;exact⟨nS (by rw[ht.out];rfl),iu.alloc _ _⟩
  .go_enter func53,ntmps53;go_wp2;go_ret;exact⟨nS (by rw[ht.out];rfl),iu.alloc _ _⟩
def agA(s:Bool)(A:Option Addr)(c:Nat)(L:List Nat)(e:Int)(w:World)(hs:Sl w A c L)(ht:mG L)(hl:L.length<=100000)(lh:-1000000<=e)(kF:e<=1000000):
 Calls prog 171 #[.agg #[.bool s,.slice A L.length c,.int .i64 e]] w λr w'=>r = .returned (.int .i64 (Dy.jj ⟨s,val L,e⟩))/\iu w w':=by
 have HS:=akw (λw (h:Sl w A c L)=>U6 A c L w h ht aD);have wZ:gU (val L)<=32*L.length:=kB.2 (by rw[<-nB];exact lW hs.ok);by_cases h0:L=[]
 .subst h0;go_enter func171,ntmps171;go_wp2;go_ret;exact⟨rfl,iu.alloc _ _⟩
 .have rX:0<L.length:=eo.2 h0;have q6:val L≠0:=by have:=ht.xO h0;omega
  have ht:=akw (show Dy.jj ⟨s,val L,e⟩=gU (val L)+e by unfold Dy.jj;rw[bh q6]);clear h0 q6;generalize Dy.jj ⟨s,val L,e⟩=t at *
  generalize gU (val L)=q at *
  have hw:IntKind.i64.wrap ((q:Int)+e)=q+e:=i64_in _ aD aD;have rW:((L.length:Int)==0)=false:=a7 aD;have ns:=hs.alloc (.cells #[.bool s,.slice A L.length c,.int .i64 e] 39);go_enter func171,ntmps171;go_wp2_with fail;go_region_held3 (λw'=>w'.cell? ⟨w.heap.size,1,none⟩=some (.slice A L.length c)/\w'.cell? ⟨w.heap.size,2,none⟩=some (.int .i64 e)) (go_keep)
   (first|(go_at_call 170;refine(HS.out _ ?_).mono ?_;(exact ns.drew);rintro r w'' ⟨rfl,rfl⟩))
  go_wp2;go_ret;exact⟨nS (by rw[ht.out]),Below.drew (iu.alloc _ _)⟩
def agp(s:Bool)(A:Option Addr)(c:Nat)(L:List Nat)(e:Int)(w:World)(hs:Sl w A c L)(ht:mG L):
 Calls prog 146 #[.agg #[.bool s,.slice A L.length c,.int .i64 e]] w (sO w (iB ⟨s,val L,e⟩)):=by
 have hl:=hs.len;have HL:=akw (ht.CS hs.ok);by_cases h0:L=[]
 .subst h0;have HZ:=akw nt;cases s
  .go_enter func146,ntmps146;go_wp2;exact rT (d:=iB ⟨false,val [],e⟩) rfl rfl rfl (ju.rF aJ _ _ _ _ _) (by show _=(gK 0).length;rw[HZ.out];rfl) (by show Sl _ _ _ (gK 0);rw[HZ.out];exact(hs.alloc _).alloc _) ((iu.alloc _ _).trans (iu.alloc _ _))
  .go_enter func146,ntmps146;go_wp2;exact rT (d:=iB ⟨true,val [],e⟩) rfl rfl rfl (ju.rF aJ _ _ _ _ _) (by show _=(gK 0).length;rw[HZ.out];rfl) (by show Sl _ _ _ (gK 0);rw[HZ.out];exact(hs.alloc _).alloc _) ((iu.alloc _ _).trans (iu.alloc _ _))
 .have rX:0<L.length:=eo.2 h0;have q6:val L≠0:=by have:=ht.xO h0;omega
  have hd:=akw (show iB ⟨s,val L,e⟩=⟨!s,val L,e⟩by unfold iB;simp[q6]);clear h0 q6 ht;rw[hd.out];cases s
  .go_enter func146,ntmps146;go_wp2;exact rT (d:=⟨!false,val L,e⟩) rfl rfl rfl (ju.rF aJ _ _ _ _ _) (by show _=(gK (val L)).length;rw[<-HL.out]) (by show Sl _ _ _ (gK (val L));rw[<-HL.out];exact(hs.alloc _).alloc _) ((iu.alloc _ _).trans (iu.alloc _ _))
  .go_enter func146,ntmps146;go_wp2;exact rT (d:=⟨!true,val L,e⟩) rfl rfl rfl (ju.rF aJ _ _ _ _ _) (by show _=(gK (val L)).length;rw[<-HL.out]) (by show Sl _ _ _ (gK (val L));rw[<-HL.out];exact(hs.alloc _).alloc _) ((iu.alloc _ _).trans (iu.alloc _ _))
def Yo{a b:Nat}:kv a b=0↔a=b:=by
 unfold kv;by_cases h:a<b
 .rw [bj h];omega
 .by_cases h':b<a
  .rw [bh h,bj h'];omega
  .rw [bh h,bh h'];omega
def agh(s:Bool)(A:Option Addr)(c:Nat)(L:List Nat)(e:Int)(t:Bool)(B:Option Addr)(d:Nat)(M:List Nat)(f:Int)(w:World)(b:Bool)
 (hs:Sl w A c L) (hr:Sl w B d M) (tL:mG L) (tM:mG M) (h1:L.length<=100000) (_h2:M.length<=100000) (hb:b=true↔(s=t/\e=f/\L=M)):
 Calls prog 83 #[.agg #[.bool s,.slice A L.length c,.int .i64 e],.agg #[.bool t,.slice B M.length d,.int .i64 f]] w λr w'=>r = .returned (.bool b)/\iu w w':=by
 have hE:iu w ((w.alloc (.cells #[.bool s,.slice A L.length c,.int .i64 e] 39)).alloc (.cells #[.bool t,.slice B M.length d,.int .i64 f] 39)):=(iu.alloc _ _).trans (iu.alloc _ _);by_cases h:s=t
 .subst h;by_cases h':e=f
  .subst h';have mf:b=true↔L=M:=by rw[hb];simp
   clear hb;by_cases hl:L.length=M.length
   .have HC:=akw (λw (h:Sl w A c L) (k:Sl w B d M)=>U7 A B c d L M w h k tL tM aD aD);have hv:Hid (b=(kv (val L) (val M)==0)):=by
     show b=_;refine Ns mf ?_;rw[gz,Yo];exact⟨λh=>by rw[h],λh=>mG.ext tL tM hs.ok hr.ok h⟩
    generalize kv (val L) (val M)=v at *
    rw[<-hl]at HC hE ⊢;have hse:(e==e)=true:= aJ ;have kr:=(hs.alloc (.cells #[.bool s,.slice A L.length c,.int .i64 e] 39)).alloc (.cells #[.bool s,.slice B L.length d,.int .i64 e] 39);have mV:=(hr.alloc (.cells #[.bool s,.slice A L.length c,.int .i64 e] 39)).alloc (.cells #[.bool s,.slice B L.length d,.int .i64 e] 39);clear mf hl tL tM;cases s
    .go_enter func83,ntmps83;go_wp2_with fail;refine(HC.out _ kr mV).mono ?_;rintro r w' ⟨rfl,kJ⟩;go_wp2;go_ret;exact⟨Hm hv.out.symm,hE.trans kJ⟩
    .go_enter func83,ntmps83;go_wp2_with fail;refine(HC.out _ kr mV).mono ?_;rintro r w' ⟨rfl,kJ⟩;go_wp2;go_ret;exact⟨Hm hv.out.symm,hE.trans kJ⟩
   .have:=pG mf (λh=>hl (by rw[h]));clear mf;subst this;have kV:((L.length:Int)==M.length)=false:=a7 aD;generalize L.length=n at *
    generalize M.length=m at *
    cases s
    .go_enter func83,ntmps83;go_wp2;go_ret;exact⟨rfl,hE⟩
    .go_enter func83,ntmps83;go_wp2;go_ret;exact⟨rfl,hE⟩
  .have:=pG hb (λh=>h' h.2.1);clear hb;subst this;have kV:(e==f)=false:=a7 h';cases s
   .go_enter func83,ntmps83;go_wp2;go_ret;exact⟨rfl,hE⟩
   .go_enter func83,ntmps83;go_wp2;go_ret;exact⟨rfl,hE⟩
 .have:=pG hb (λh'=>h h'.1);clear hb;subst this;cases s<;>cases t
  .exact absurd rfl h
  .go_enter func83,ntmps83;go_wp2;go_ret;exact⟨rfl,hE⟩
  .go_enter func83,ntmps83;go_wp2;go_ret;exact⟨rfl,hE⟩
  .exact absurd rfl h
def Sl.Ih(w:World)(g:Nat)(hg:w.heap.size=g)(y z:Int)(p q:Nat)(e:y=(p:Int))(e':z=(q:Int))(hp:p<4294967296)(hq:q<4294967296):
 Sl (w.alloc (.cells #[.int .u32 y,.int .u32 z] 150)) (some ⟨g,0,none⟩) 2 [p,q]:=by
 subst e e' hg;refine⟨bp _,aF,iw.cons hp (iw.cons hq iw.nil),(λh=>by cases h),λi y hy=>?_⟩;obtain⟨h1,h2⟩:=cg.1 hy;simp at h1;refine⟨_,_,rfl,aJ,?_⟩;rw[bU,World.cell?_alloc_at _ _ _ _ rfl];rcases i with _|_|i
 .simp at h2;subst h2;rfl
 .simp at h2;subst h2;rfl
 .omega
def agm(n:Nat)(w:World)(hn:n<4294967296):
 Calls prog 112 #[.int .i64 n] w (sO w (canon false n 0)):=by
 have hm:=uR n aD;have vg:(n:Int)%4294967296=n:= aD ;rw[vg]at hm;have hd:(n:Int)/4294967296=0:= aD ;have iE:¬(n:Int)<0:= aD ;have C7:decide ((n:Int)<0)=false:=bl iE;have hu:IntKind.u64.wrap (n:Int)=n:=by rw[IntKind.wrap_u64];omega
 have HC:=akw (λ(A:Option Addr) c w (h:Sl w A c [n,0])=>Ek false A c [n,0] 0 w h aJ aF aF);have hv:val [n,0]=n:= aJ ;rw[hv]at HC;clear hv;generalize canon false n 0=d at *
 go_enter func112,ntmps112;go_wp2_with fail;refine(HC.out _ _ _ (Sl.Ih _ _ aJ _ _ n 0 rfl rfl hn aF)).mono ?_;rintro r w1 ⟨A1,c1,rfl,rY,kJ⟩;have om:iu (w.alloc (.cells #[.bool false,.slice none 0 0,.int .i64 0] 39)) w1:=(iu.alloc _ _).trans kJ;have bx:=(ju.new w false none 0 0 0).ext om;have b0:=bx.c0;have b1:=bx.c1;have b2:=bx.c2;have f0:=bx.fr 0;have f1:=bx.fr 1;have f2:=bx.fr 2;go_wp2;exact rT rfl rfl rfl (bx.set _ _ _ _ _) rfl (bx.sM rY _ _ _ _ _) (ju.sc ((iu.alloc _ _).trans om) (bp _) _ _ _ _ _)
def Co{w:World}{g g' i:Nat}{v a b c:Value}(h:w.cell? ⟨g,i,none⟩=some v)(kV:g'≠g):
 (((w.setCell ⟨g',0,none⟩ a).setCell ⟨g',1,none⟩ b).setCell ⟨g',2,none⟩ c).cell? ⟨g,i,none⟩=some v:=by
 rw[World.cell?_setCell_other _ _ _ _ aM,World.cell?_setCell_other _ _ _ _ aM,World.cell?_setCell_other _ _ _ _ aM];exact h
end Go.Proofs.YtkjkcjhacddojaaGreatDoor
namespace Go.Proofs.YtkjkcjhacddojaaGreatDoor.Fp
def A4(s:Bool)(e:Int):canon s 0 e=ix:=by unfold canon;rw[bj rfl];rfl
def E6(s:Bool)(x:Nat)(k:Int):lE (if s then -(x:Int)else(x:Int)) k=canon s x k:=by
 unfold lE;cases s
 .have h:decide ((x:Int)<0)=false:=bl aD ;simp only[b9,bF];rw[h,dc]
 .by_cases h:x=0
  .subst h;simp[A4]
  .have h:decide (-(x:Int)<0)=true:=bk aD ;simp only[bI];rw[h,fj,dc]
def ah6{s:Bool}{m n:Nat}{e f k:Int}(hm:m≠0)(hn:n≠0)(hk:min e f=k):
 iM ⟨s,m,e⟩ ⟨s,n,f⟩=canon s (m*2^(e-k).toNat+n*2^(f-k).toNat) k:=by
 unfold iM;rw[bh hm,bh hn];simp only[hk];rw[<-E6];unfold Dy.num Dy.jP;cases s
 .simp
 .simp;congr 1;omega
def ah3{s t:Bool}{m n:Nat}{e f k:Int}(hm:m≠0)(hn:n≠0)(hk:min e f=k)(hs:s≠t)(rV:n*2^(f-k).toNat<=m*2^(e-k).toNat):
 iM ⟨s,m,e⟩ ⟨t,n,f⟩=canon s (m*2^(e-k).toNat-n*2^(f-k).toNat) k:=by
 unfold iM;rw[bh hm,bh hn];simp only[hk];rw[<-E6];unfold Dy.num Dy.jP;simp only;generalize m*2^(e-k).toNat=x at *
 generalize n*2^(f-k).toNat=y at *
 congr 1;cases s<;>cases t<;>simp at hs ⊢ <;> omega
def ah4{s t:Bool}{m n:Nat}{e f k:Int}(hm:m≠0)(hn:n≠0)(hk:min e f=k)(hs:s≠t)(iE:m*2^(e-k).toNat<n*2^(f-k).toNat):
 iM ⟨s,m,e⟩ ⟨t,n,f⟩=canon t (n*2^(f-k).toNat-m*2^(e-k).toNat) k:=by
 unfold iM;rw[bh hm,bh hn];simp only[hk];rw[<-E6];unfold Dy.num Dy.jP;simp only;generalize m*2^(e-k).toNat=x at *
 generalize n*2^(f-k).toNat=y at *
 congr 1;cases s<;>cases t<;>simp at hs ⊢ <;> omega
def acV{L:List Nat}(h:iw L)(n:Nat):(gK (val L*2^n)).length<=L.length+n/32+1:=by
 refine qi ?_;have h1:=lW h;rw[nB]at h1 ⊢;have h2:val L*2^n<2^(32*L.length)*2^n:=cO h1 (bu aF);rw[<-bq]at h2;exact bN h2 (bG aF aD)
def RY{a b k:Nat}(ha:(gK a).length<=k)(hb:(gK b).length<=k):(gK (a+b)).length<=k+1:=by
 refine qi ?_;have h1:=uy ha;have h2:=uy hb;rw[bE];omega
def xw{a b:Nat}(h:a<=b):(gK a).length<=(gK b).length:=
 qi (cC h (uy (bp _)))
end Go.Proofs.YtkjkcjhacddojaaGreatDoor.Fp
namespace Go.Proofs.YtkjkcjhacddojaaGreatDoor
open Go.RowKit Fp
def mK(a b:Dy):Dy:=canon (a.neg != b.neg) (a.m*b.m) (a.e+b.e)
def acU{a b k l:Nat}(ha:(gK a).length<=k)(hb:(gK b).length<=l):(gK (a*b)).length<=k+l:=by
 have h1:=uy ha;have h2:=uy hb;refine qi ?_;rw[bq];exact gw h1 h2
def K4{L:List Nat}{k:Nat}(h:iw L)(hl:L.length<=k):(gK (val L)).length<=k:=
 qi (bN (lW h) (bG aF hl))
def agr(s : Bool)(A : Option Addr)(c : Nat)(L : List Nat)(e : Int)(t : Bool)(B : Option Addr)(d : Nat)(M : List Nat)(f : Int)(w : World)
    (hs : Sl w A c L) (hr : Sl w B d M) (h1 : L.length<=1000) (h2 : M.length<=1000) (e1 : -200000<=e) (e2 : e<=200000) (f1 : -200000<=f) (f2 : f<=200000):
    Calls prog 265 #[.agg #[.bool s,.slice A L.length c,.int .i64 e],.agg #[.bool t,.slice B M.length d,.int .i64 f]] w (sO w (mK ⟨s,val L,e⟩ ⟨t,val M,f⟩)) := by
  have hE : iu w (((w.alloc (.cells #[.bool s,.slice A L.length c,.int .i64 e] 39)).alloc (.cells #[.bool t,.slice B M.length d,.int .i64 f] 39)).alloc (.cells #[.bool false,.slice none 0 0,.int .i64 0] 39)) := ((iu.alloc _ _).trans (iu.alloc _ _)).trans (iu.alloc _ _);have hw : IntKind.i64.wrap (e+f)=e+f := i64_in _ aD aD;have kC := (((ju.new w s A L.length c e).alloc (.cells #[.bool t,.slice B M.length d,.int .i64 f] 39)).alloc (.cells #[.bool false,.slice none 0 0,.int .i64 0] 39)).drew;have kI := ((ju.rF (W := w.alloc (.cells #[.bool s,.slice A L.length c,.int .i64 e] 39)) (g := w.heap.size+1) aJ t B M.length d f).alloc (.cells #[.bool false,.slice none 0 0,.int .i64 0] 39)).drew;have XY := (ju.rF (W := (w.alloc (.cells #[.bool s,.slice A L.length c,.int .i64 e] 39)).alloc (.cells #[.bool t,.slice B M.length d,.int .i64 f] 39)) (g := w.heap.size+1+1) aJ false none 0 0 0).drew;have tf := (hs.below hE).drew;have xm := (hr.below hE).drew;have HE := akw (hE.trans (iu.drew _));clear hE;have hlen := acU (a := val L) (b := val M) (k := 1000) (l := 1000) (K4 hs.ok h1) (K4 hr.ok h2);have HO := akw (λA c w (h : Sl w A c (gK (val L*val M))) => Ek (s != t) A c (gK (val L*val M)) (e+f) w h aD aD aD);rw[jR]at HO;have hD : mK ⟨s,val L,e⟩ ⟨t,val M,f⟩=canon (s != t) (val L*val M) (e+f) := rfl;rw[hD];have HT := akw (λw (h : Sl w A c L) (k : Sl w B d M) => agz A B c d L M w h k aD aD);clear hD hlen;generalize canon (s != t) (val L*val M) (e+f)=D at *
  generalize val L*val M=x at *
  go_enter func265,ntmps265;go_wp2_with fail;go_region_held3 (λw' => w'.cell? ⟨w.heap.size,0,none⟩=some (.bool s)/\w'.cell? ⟨w.heap.size,1,none⟩=some (.slice A L.length c)/\w'.cell? ⟨w.heap.size,2,none⟩=some (.int .i64 e)/\w'.cell? ⟨w.heap.size+1,0,none⟩=some (.bool t)/\w'.cell? ⟨w.heap.size+1,1,none⟩=some (.slice B M.length d)/\w'.cell? ⟨w.heap.size+1,2,none⟩=some (.int .i64 f))
    (first
      |exact⟨kC.c0,kC.c1,kC.c2,kI.c0,kI.c1,kI.c2⟩
      |exact⟨(kC.ext oo).c0,(kC.ext oo).c1,(kC.ext oo).c2,(kI.ext oo).c0,(kI.ext oo).c1,(kI.ext oo).c2⟩
      |exact⟨(kC.ext (oo.trans jS)).c0,(kC.ext (oo.trans jS)).c1,(kC.ext (oo.trans jS)).c2,(kI.ext (oo.trans jS)).c0,(kI.ext (oo.trans jS)).c1,(kI.ext (oo.trans jS)).c2⟩
      |exact⟨Co (kC.ext (oo.trans jS)).c0 aD,Co (kC.ext (oo.trans jS)).c1 aD,Co (kC.ext (oo.trans jS)).c2 aD,Co (kI.ext (oo.trans jS)).c0 aD,Co (kI.ext (oo.trans jS)).c1 aD,Co (kI.ext (oo.trans jS)).c2 aD⟩)
    (first
      | (go_at_call 305
         refine(HT.out _ tf xm).mono ?_;rintro r wp ⟨Ap,cp,rfl,KE,oo⟩)
      | (go_at_call 186
         refine(HO.out _ _ _ KE).mono ?_;rintro r wo ⟨Ao,co,rfl,zS,jS⟩;have bz := XY.ext (oo.trans jS);have z0 := bz.c0;have z1 := bz.c1;have z2 := bz.c2;have y0 := bz.fr 0;have y1 := bz.fr 1;have y2 := bz.fr 2))
  go_wp2;exact rT rfl rfl rfl (bz.set _ _ _ _ _) rfl (bz.sM zS _ _ _ _ _) (ju.sc (HE.out.trans (oo.trans jS)) aD _ _ _ _ _)
end Go.Proofs.YtkjkcjhacddojaaGreatDoor
namespace Go.Proofs.YtkjkcjhacddojaaGreatDoor.Fp
def ac8{d:Dy}{j k:Int}(h1:j<=k)(h2:k<=d.e):d.jP j=d.jP k*2^(k-j).toNat:=by
 unfold Dy.jP;rw[bw,<-bq];congr 2;omega
def GU{d:Dy}{j k:Int}(h1:j<=k)(h2:k<=d.e):d.num j=d.num k*((2^(k-j).toNat:Nat):Int):=by
 unfold Dy.num;rw[ac8 h1 h2];split
 .rw [dQ,Int.neg_mul]
 .rw [dQ]
def uB{d:Dy}(h:d.m=0)(k:Int):d.num k=0:=by
 unfold Dy.num;rw[Sj h];split<;>rfl
def tW(x y:Int):Int:=if x<y then -1 else if y<x then 1 else 0
def N1(x y:Int){p:Nat}(hp:0<p):tW (x*(p:Int)) (y*(p:Int))=tW x y:=by
 unfold tW;have h:(0:Int)<p:= aD ;have a:=@Int.mul_lt_mul_right (p:Int) x y h;have b:=@Int.mul_lt_mul_right (p:Int) y x h;simp only[a,b]
def mO(d:Dy)(k:Int):Prop:=d.m=0\/k<=d.e
def mO.le{d:Dy}{j k:Int}(h:mO d k)(hj:j<=k):mO d j:=by
 rcases h with h|h
 .exact .inl h
 .exact .inr aD 
def mO.num{d:Dy}{j k:Int}(h:mO d k)(hj:j<=k):d.num j=d.num k*((2^(k-j).toNat:Nat):Int):=by
 rcases h with h|h
 .rw [uB h,uB h,Int.zero_mul]
 .exact GU hj h
def zt{a b:Dy}{k:Int}(ha:mO a k)(hb:mO b k):jh a b=tW (a.num k) (b.num k):=by
 have e0:jh a b=tW (a.num (min a.e b.e)) (b.num (min a.e b.e)):=rfl;rw[e0];obtain⟨j,h1,h2⟩:∃ j:Int,j<=k/\j<=min a.e b.e:=⟨min k (min a.e b.e),aD,aD⟩
 have a1:=ha.num h1;have b1:=hb.num h1;have a2:=(show mO a (min a.e b.e)from .inr aD).num h2;have b2:=(show mO b (min a.e b.e)from .inr aD).num h2;rw[<-N1 _ _ (p:=2^(min a.e b.e-j).toNat) (bu aF),<-a2,<-b2,a1,b1,N1 _ _ (bu aF)]
def ac6{s:Bool}{m:Nat}{e k:Int}(h:k<=e):(canon s m e).jP k=m*2^(e-k).toNat:=by
 unfold canon;split
 .rename_i h0;subst h0;simp[Dy.jP]
 .rename_i h0;unfold Dy.jP;simp only;have e1:=Fl h0
  conv=>rhs;rw[<-e1]
  rw[bw,<-bq];congr 2;omega
def Ai{s:Bool}{m:Nat}{e k:Int}(h:k<=e):(canon s m e).num k=if s then -((m*2^(e-k).toNat:Nat):Int)else((m*2^(e-k).toNat:Nat):Int):=by
 by_cases h0:m=0
 .subst h0;rw[uB (by simp[canon])];simp
 .have:(canon s m e).neg=s:=by unfold canon;rw[bh h0]
  unfold Dy.num;rw[ac6 h,this]
def S3{m:Nat}{e k:Int}(h:k<=e):(canon false m e).num k=((m*2^(e-k).toNat:Nat):Int):=by
 rw[Ai h];simp
def Lq{z e k:Int}(h:k<=e):(lE z e).num k=z*((2^(e-k).toNat:Nat):Int):=by
 unfold lE;rw[Ai h];by_cases hz:z<0
 .simp only[hz,fN,bI];rw[dQ,<-Int.neg_mul];congr 1;omega
 .simp only[hz,decide_false];rw[dQ,show(z.natAbs:Int)=z by omega];simp
def xU{s:Bool}{m:Nat}{e k:Int}(h:k<=e):mO (canon s m e) k:=by
 unfold canon;split
 .exact .inl rfl
 .exact .inr (by simp only;omega)
def IJ{z e k:Int}(h:k<=e):mO (lE z e) k:=xU h
def Mw{a b:Dy}{k:Int}(ha:mO a k)(hb:mO b k):(iM a b).num k=a.num k+b.num k:=by
 unfold iM;by_cases h1:a.m=0
 .rw [bj h1,uB h1,Int.zero_add]
 .rw [bh h1];by_cases h2:b.m=0
  .rw [bj h2,uB h2,Int.add_zero]
  .rw [bh h2];have ea:k<=a.e:=by rcases ha with h|h;exact absurd h h1;exact h
   have eb:k<=b.e:=by rcases hb with h|h;exact absurd h h2;exact h
   have hm:k<=min a.e b.e:= aD ;rw[Lq hm,Int.add_mul,<-GU hm aD,<-GU hm aD]
def IK{a b:Dy}{k:Int}(ha:mO a k)(hb:mO b k):mO (iM a b) k:=by
 unfold iM;by_cases h1:a.m=0
 .rw [bj h1];exact hb
 .rw [bh h1];by_cases h2:b.m=0
  .rw [bj h2];exact ha
  .rw [bh h2];have ea:k<=a.e:=by rcases ha with h|h;exact absurd h h1;exact h
   have eb:k<=b.e:=by rcases hb with h|h;exact absurd h h2;exact h
   exact IJ aD 
def E8{a b:Dy}(ha:a.lA)(hb:b.lA):(iM a b).lA:=by
 unfold iM;split
 .exact hb
 .split
  .exact ha
  .exact rj _ _ _
def CD{d:Dy}{k:Int}(h:mO d k):mO (iB d) k:=h
def D3{d:Dy}(k:Int):(iB d).num k = -(d.num k):=by
 by_cases h:d.m=0
 .rw [uB h,uB (by exact h)];rfl
 .exact Ls d k h
def Jl{a b:Dy}(ha:a.lA)(hb:b.lA){k:Int}(h1:mO a k)(h2:mO b k)(h:a.num k=b.num k):a=b:=by
 have zero:∀ {d:Dy},d.lA->d.m=0->d=ix:=by
  intro d hd h0;obtain⟨s,m,e⟩:=d;rcases hd with⟨x,y,z⟩|hd
  .simp only at x y z;subst x y z;rfl
  .simp only at hd h0;omega
 have nz:∀ {d:Dy},d.num k=0->d.m=0:=by
  intro d hd;by_cases h0:d.m=0
  .exact h0
  .exfalso;have:=vr h0 k;unfold Dy.num at hd;split at hd<;>omega
 by_cases za:a.m=0
 .have zb:b.m=0:=nz (by rw[<-h];exact uB za k);rw[zero ha za,zero hb zb]
 .have zb:b.m≠0:=λzb=>za (nz (by rw[h];exact uB zb k))
  have oa:a.m%2=1:=by rcases ha with⟨x,_,_⟩|x;exact absurd x za;exact x
  have ob:b.m%2=1:=by rcases hb with⟨x,_,_⟩|x;exact absurd x zb;exact x
  have ea:k<=a.e:=by rcases h1 with h|h;exact absurd h za;exact h
  have eb:k<=b.e:=by rcases h2 with h|h;exact absurd h zb;exact h
  have pa:=vr za k;have pb:=vr zb k;have hm:a.neg=b.neg/\a.jP k=b.jP k:=by
   unfold Dy.num at h;cases x:a.neg<;>cases y:b.neg<;>simp[x,y]at h<;>first|exact⟨rfl,aD⟩|(exfalso;omega)
  have hc:=congrArg jY hm.2;unfold Dy.jP at hc;rw[wT oa,wT ob]at hc;have vg:=hm.2;unfold Dy.jP at vg;rw[hc]at vg;have sv:=aks (bu aF) vg;obtain⟨s,m,e⟩:=a;obtain⟨t,n,f⟩:=b;simp only at *
  have:e=f:= aD ;rw[hm.1,sv,this]
end Go.Proofs.YtkjkcjhacddojaaGreatDoor.Fp
namespace Go.Proofs.YtkjkcjhacddojaaGreatDoor
open Go.RowKit Fp
def VF(A:Option Addr)(c:Nat)(M:List Nat)(n:Int)(w:World)(kr:Sl w A c M)(hlen:M.length<=256)(h0:0<=n)(hn:n<=65536)(nO:(gK (val M*2^n.toNat)).length<=256):
 Calls prog 266 #[.slice A M.length c,.int .i64 n] w (rN w (gK (val M*2^n.toNat))):=by
 obtain⟨k,rfl⟩:=dm h0;exact ahz A c M k w kr hlen aD nO
set_option maxHeartbeats 8000000 in
def Zf(s : Bool)(A : Option Addr)(c : Nat)(L : List Nat)(e : Int)(t : Bool)(B : Option Addr)(d : Nat)(M : List Nat)(f : Int)(w : World)
    (hs : Sl w A c L) (hr : Sl w B d M) (da : od s L e) (db : od t M f) (C1 : val L≠0) (uV : val M≠0):
    Calls prog 199 #[.agg #[.bool s,.slice A L.length c,.int .i64 e],.agg #[.bool t,.slice B M.length d,.int .i64 f]] w λr w' => r = .returned (.int .i64 (rO ⟨s,val L,e⟩ ⟨t,val M,f⟩))/\iu w w' := by
  obtain⟨lh,kF⟩ := da.exp;obtain⟨Ke,Kf⟩ := db.exp;have hl := da.len;have hm := db.len;have hE : iu w ((w.alloc (.cells #[.bool s,.slice A L.length c,.int .i64 e] 39)).alloc (.cells #[.bool t,.slice B M.length d,.int .i64 f] 39)) := (iu.alloc _ _).trans (iu.alloc _ _);have kC := ((ju.new w s A L.length c e).alloc (.cells #[.bool t,.slice B M.length d,.int .i64 f] 39)).drew;have kI := (ju.rF (W := w.alloc (.cells #[.bool s,.slice A L.length c,.int .i64 e] 39)) (g := w.heap.size+1) aJ t B M.length d f).drew;have tf := (hs.below hE).drew;have xm := (hr.below hE).drew;have HE := akw (hE.trans (iu.drew _));clear hE;have HTa := akw (λw (h : Sl w A c L) => Jk s A c L e w h da);have HTb := akw (λw (h : Sl w B d M) => Jk t B d M f w h db);have Hlt := akw (λh => N3 (a := ⟨s,val L,e⟩) (b := ⟨t,val M,f⟩) C1 uV h);have Hgt := akw (λh => N2 (a := ⟨s,val L,e⟩) (b := ⟨t,val M,f⟩) C1 uV h);have Hta := akw (show Dy.jj ⟨s,val L,e⟩=gU (val L)+e by unfold Dy.jj;rw[bh C1]);have Htb := akw (show Dy.jj ⟨t,val M,f⟩=gU (val M)+f by unfold Dy.jj;rw[bh uV]);obtain⟨k,hk⟩ : ∃ k,min e f=k := ⟨_,rfl⟩
  have hke : k<=e := aD ;have hkf : k<=f := aD ;have kx : -17000<=k := aD ;have Kp := akw (aD:k=e\/k=f);have Rc : IntKind.i64.wrap (e-k)=e-k := i64_in _ aD aD;have hwf : IntKind.i64.wrap (f-k)=f-k := i64_in _ aD aD;have HM := akw (show rO ⟨s,val L,e⟩ ⟨t,val M,f⟩=kv (val L*2^(e-k).toNat) (val M*2^(f-k).toNat)by unfold rO;simp only[hk];rfl);have Hfa := akw (show gU (val L)+e=gU (val M)+f->gU (val L*2^(e-k).toNat)<=4096 from λh => by
    rw[qw C1];have := da.bits;have := db.bits;have := Kp.out;omega)
  have Hfb := akw (show gU (val L)+e=gU (val M)+f->gU (val M*2^(f-k).toNat)<=4096 from λh => by
    rw[qw uV];have := da.bits;have := db.bits;have := Kp.out;omega)
  have HXa := akw (λw (h : Sl w A c L) nO => VF A c L (e-k) w h hl aD aD nO);have HXb := akw (λw (h : Sl w B d M) nO => VF B d M (f-k) w h hm aD aD nO);generalize Dy.jj ⟨s,val L,e⟩=ta at *
  generalize Dy.jj ⟨t,val M,f⟩=tb at *
  generalize rO ⟨s,val L,e⟩ ⟨t,val M,f⟩=R at *
  generalize val L*2^(e-k).toNat=x at *
  generalize val M*2^(f-k).toNat=y at *
  have HC := akw (λA B c d w (h : Sl w A c (gK x)) (k : Sl w B d (gK y)) hx hy => GK A B c d (gK x) (gK y) w h k hx hy);rw[jR,jR]at HC;clear C1 uV da db hl hm;go_enter func199,ntmps199;go_wp2_with fail;go_region_held3 (λw' => w'.cell? ⟨w.heap.size,0,none⟩=some (.bool s)/\w'.cell? ⟨w.heap.size,1,none⟩=some (.slice A L.length c)/\w'.cell? ⟨w.heap.size,2,none⟩=some (.int .i64 e)/\w'.cell? ⟨w.heap.size+1,0,none⟩=some (.bool t)/\w'.cell? ⟨w.heap.size+1,1,none⟩=some (.slice B M.length d)/\w'.cell? ⟨w.heap.size+1,2,none⟩=some (.int .i64 f))
    (first
      |exact⟨kC.c0,kC.c1,kC.c2,kI.c0,kI.c1,kI.c2⟩
      |exact⟨(kC.ext iN).c0,(kC.ext iN).c1,(kC.ext iN).c2,(kI.ext iN).c0,(kI.ext iN).c1,(kI.ext iN).c2⟩
      |exact⟨(kC.ext jB).c0,(kC.ext jB).c1,(kC.ext jB).c2,(kI.ext jB).c0,(kI.ext jB).c1,(kI.ext jB).c2⟩
      |exact⟨(kC.ext (iN.trans jB)).c0,(kC.ext (iN.trans jB)).c1,(kC.ext (iN.trans jB)).c2,(kI.ext (iN.trans jB)).c0,(kI.ext (iN.trans jB)).c1,(kI.ext (iN.trans jB)).c2⟩
      |exact⟨(kC.ext (jB.trans iN)).c0,(kC.ext (jB.trans iN)).c1,(kC.ext (jB.trans iN)).c2,(kI.ext (jB.trans iN)).c0,(kI.ext (jB.trans iN)).c1,(kI.ext (jB.trans iN)).c2⟩
      |exact⟨(kC.ext ((iN.trans jB).trans oq)).c0,(kC.ext ((iN.trans jB).trans oq)).c1,(kC.ext ((iN.trans jB).trans oq)).c2,(kI.ext ((iN.trans jB).trans oq)).c0,(kI.ext ((iN.trans jB).trans oq)).c1,(kI.ext ((iN.trans jB).trans oq)).c2⟩
      |exact⟨(kC.ext ((jB.trans iN).trans oq)).c0,(kC.ext ((jB.trans iN).trans oq)).c1,(kC.ext ((jB.trans iN).trans oq)).c2,(kI.ext ((jB.trans iN).trans oq)).c0,(kI.ext ((jB.trans iN).trans oq)).c1,(kI.ext ((jB.trans iN).trans oq)).c2⟩)
    (first
      | (go_at_call_of 216 (Value.agg #[.bool s,.slice A L.length c,.int .i64 e])
         refine(HTa.out _ ?_).mono ?_
         (first|exact tf|exact tf.below jB)
         rintro r wx ⟨rfl,iN⟩)
      | (go_at_call_of 216 (Value.agg #[.bool t,.slice B M.length d,.int .i64 f])
         refine(HTb.out _ ?_).mono ?_
         (first|exact xm|exact xm.below iN)
         rintro r wy ⟨rfl,jB⟩))
  first
    | (have pt := iN.trans jB)
    | (have pt := jB.trans iN)
  have cx1 := (kC.ext pt).drew;have cx2 := (kI.ext pt).drew;have kr := (tf.below pt).drew;have mV := (xm.below pt).drew;have cx1n := (kC.ext pt)
  have cx2n := (kI.ext pt)
  have HF := akw ((HE.out.trans pt).trans (iu.drew _));have HFr := akw (HE.out.trans pt);clear iN jB pt;by_cases h1 : ta<tb
  . have hR := akw (Hlt.out h1)
    go_wp2;go_ret;exact⟨nS hR.out.symm,HFr.out⟩
  . by_cases h2 : tb<ta
    . have hR := akw (Hgt.out h2)
      go_wp2;go_ret;exact⟨nS hR.out.symm,HFr.out⟩
    . have oV : (gU (val L) : Int)+e=gU (val M)+f := by rw[<-Hta.out,<-Htb.out];omega
      have hfa := K3 (k := 128) (Hfa.out oV);have hfb := K3 (k := 128) (Hfb.out oV);have HXa2 := akw (λw h => HXa.out w h aD);have HXb2 := akw (λw h => HXb.out w h aD);have HC2 := akw (λA B c d w h k => HC.out A B c d w h k aD aD);have b0 := cx1n.c0;have b1 := cx1n.c1;have b2 := cx1n.c2;have d0 := cx2n.c0;have d1 := cx2n.c1;have d2 := cx2n.c2;clear oV hfa hfb;go_wp2_with fail;go_region_held3 (λw' => w'.cell? ⟨w.heap.size,0,none⟩=some (.bool s)/\w'.cell? ⟨w.heap.size,1,none⟩=some (.slice A L.length c)/\w'.cell? ⟨w.heap.size,2,none⟩=some (.int .i64 e)/\w'.cell? ⟨w.heap.size+1,0,none⟩=some (.bool t)/\w'.cell? ⟨w.heap.size+1,1,none⟩=some (.slice B M.length d)/\w'.cell? ⟨w.heap.size+1,2,none⟩=some (.int .i64 f))
        (first
          |exact⟨cx1.c0,cx1.c1,cx1.c2,cx2.c0,cx2.c1,cx2.c2⟩
          |exact⟨(cx1.ext iN).c0,(cx1.ext iN).c1,(cx1.ext iN).c2,(cx2.ext iN).c0,(cx2.ext iN).c1,(cx2.ext iN).c2⟩
          |exact⟨(cx1.ext jB).c0,(cx1.ext jB).c1,(cx1.ext jB).c2,(cx2.ext jB).c0,(cx2.ext jB).c1,(cx2.ext jB).c2⟩
          |exact⟨(cx1.ext (iN.trans jB)).c0,(cx1.ext (iN.trans jB)).c1,(cx1.ext (iN.trans jB)).c2,(cx2.ext (iN.trans jB)).c0,(cx2.ext (iN.trans jB)).c1,(cx2.ext (iN.trans jB)).c2⟩
          |exact⟨(cx1.ext (jB.trans iN)).c0,(cx1.ext (jB.trans iN)).c1,(cx1.ext (jB.trans iN)).c2,(cx2.ext (jB.trans iN)).c0,(cx2.ext (jB.trans iN)).c1,(cx2.ext (jB.trans iN)).c2⟩
          |exact⟨(cx1.ext ((iN.trans jB).trans oq)).c0,(cx1.ext ((iN.trans jB).trans oq)).c1,(cx1.ext ((iN.trans jB).trans oq)).c2,(cx2.ext ((iN.trans jB).trans oq)).c0,(cx2.ext ((iN.trans jB).trans oq)).c1,(cx2.ext ((iN.trans jB).trans oq)).c2⟩
          |exact⟨(cx1.ext ((jB.trans iN).trans oq)).c0,(cx1.ext ((jB.trans iN).trans oq)).c1,(cx1.ext ((jB.trans iN).trans oq)).c2,(cx2.ext ((jB.trans iN).trans oq)).c0,(cx2.ext ((jB.trans iN).trans oq)).c1,(cx2.ext ((jB.trans iN).trans oq)).c2⟩)
        (first
          | (go_at_call_of 266 (Value.slice A L.length c)
             refine(HXa2.out _ ?_).mono ?_
             (first|exact kr|exact kr.below jB)
             rintro r wx ⟨Ax,cx,rfl,Q0,iN⟩)
          | (go_at_call_of 266 (Value.slice B M.length d)
             refine(HXb2.out _ ?_).mono ?_
             (first|exact mV|exact mV.below iN)
             rintro r wy ⟨Ay,cy,rfl,Q1,jB⟩)
          | (go_at_call 220
             refine(HC2.out _ _ _ _ _ ?_ ?_).mono ?_
             (first|exact Q0.below jB|exact Q0)
             (first|exact Q1|exact Q1.below iN)
             rintro r wz ⟨rfl,oq⟩))
      all_goals
        go_wp2;go_ret
        (first|exact⟨nS HM.out.symm,HF.out.trans ((iN.trans jB).trans oq)⟩|exact⟨nS HM.out.symm,HF.out.trans ((jB.trans iN).trans oq)⟩)
def VN{d:Dy}:d.jc=0↔d.m=0:=by
 rcases AN d with⟨h1,h2⟩|⟨h1,_,h2⟩|⟨h1,_,h2⟩<;>simp[h1,h2]
def Zd(s : Bool)(A : Option Addr)(c : Nat)(L : List Nat)(e : Int)(t : Bool)(B : Option Addr)(d : Nat)(M : List Nat)(f : Int)(w : World)
    (hs : Sl w A c L) (hr : Sl w B d M) (da : od s L e) (db : od t M f):
    Calls prog 122 #[.agg #[.bool s,.slice A L.length c,.int .i64 e],.agg #[.bool t,.slice B M.length d,.int .i64 f]] w λr w' => r = .returned (.int .i64 (jh ⟨s,val L,e⟩ ⟨t,val M,f⟩))/\iu w w' := by
  obtain⟨lh,kF⟩ := da.exp;obtain⟨Ke,Kf⟩ := db.exp;have HVa := akw (λw (h : Sl w A c L) => zx s A c L e w true h aD aD (by simp[da]));have HVb := akw (λw (h : Sl w B d M) => zx t B d M f w true h aD aD (by simp[db]));have HSa := akw (λw (h : Sl w A c L) => Ji s A c L e w h da);have HSb := akw (λw (h : Sl w B d M) => Ji t B d M f w h db);have HK := akw (λh1 h2 w (h : Sl w A c L) (k : Sl w B d M) => Zf s A c L e t B d M f w h k da db h1 h2);have HP := akw (A5 ⟨s,val L,e⟩ ⟨t,val M,f⟩);have z1 : Hid (Dy.jc ⟨s,val L,e⟩=0↔val L=0) := VN;have z2 : Hid (Dy.jc ⟨t,val M,f⟩=0↔val M=0) := VN;have Gk : Dy.jc ⟨s,val L,e⟩=0\/Dy.jc ⟨s,val L,e⟩ = -1\/Dy.jc ⟨s,val L,e⟩=1 := by
    rcases AN ⟨s,val L,e⟩with⟨_,h⟩|⟨_,_,h⟩|⟨_,_,h⟩<;>simp[h]
  have nE : rO ⟨s,val L,e⟩ ⟨t,val M,f⟩ = -1\/rO ⟨s,val L,e⟩ ⟨t,val M,f⟩=0\/rO ⟨s,val L,e⟩ ⟨t,val M,f⟩=1 := by
    unfold rO kv;split;simp;split<;>simp
  generalize Dy.jc ⟨s,val L,e⟩=sa at *
  generalize Dy.jc ⟨t,val M,f⟩=sb at *
  generalize rO ⟨s,val L,e⟩ ⟨t,val M,f⟩=cm at *
  generalize jh ⟨s,val L,e⟩ ⟨t,val M,f⟩=R at *
  have xp : IntKind.i64.wrap (sa*cm)=sa*cm := i64_in _ (by rcases Gk with rfl|rfl|rfl<;>omega) (by rcases Gk with rfl|rfl|rfl<;>omega);have HH := akw Gk;clear Gk nE da db;go_enter func122,ntmps122;go_wp2_with fail;refine(HVa.out _ ((hs.alloc _).alloc _)).mono ?_;rintro r w1 ⟨rfl,kJ⟩;have kC := ((ju.new w s A L.length c e).alloc (.cells #[.bool t,.slice B M.length d,.int .i64 f] 39)).ext kJ;have kI := (ju.rF (W := w.alloc (.cells #[.bool s,.slice A L.length c,.int .i64 e] 39)) (g := w.heap.size+1) aJ t B M.length d f).ext kJ;have b0 := kC.c0;have b1 := kC.c1;have b2 := kC.c2;have d0 := kI.c0;have d1 := kI.c1;have d2 := kI.c2;have hE := (((iu.alloc w (.cells #[.bool s,.slice A L.length c,.int .i64 e] 39)).trans (iu.alloc _ (.cells #[.bool t,.slice B M.length d,.int .i64 f] 39))).trans kJ)
  go_wp2_with fail;refine(HVb.out _ (hr.below hE)).mono ?_;rintro r w2 ⟨rfl,mB⟩;have FO := hE.trans mB;have kC := (kC.ext mB).drew;have kI := (kI.ext mB).drew;have tf := (hs.below FO).drew;have xm := (hr.below FO).drew;have HE := akw (FO.trans (iu.drew _));clear hE FO kJ mB b0 b1 b2 d0 d1 d2;go_wp2_with fail;go_region_held3 (λw' => w'.cell? ⟨w.heap.size,0,none⟩=some (.bool s)/\w'.cell? ⟨w.heap.size,1,none⟩=some (.slice A L.length c)/\w'.cell? ⟨w.heap.size,2,none⟩=some (.int .i64 e)/\w'.cell? ⟨w.heap.size+1,0,none⟩=some (.bool t)/\w'.cell? ⟨w.heap.size+1,1,none⟩=some (.slice B M.length d)/\w'.cell? ⟨w.heap.size+1,2,none⟩=some (.int .i64 f))
    (first
      |exact⟨kC.c0,kC.c1,kC.c2,kI.c0,kI.c1,kI.c2⟩
      |exact⟨(kC.ext iN).c0,(kC.ext iN).c1,(kC.ext iN).c2,(kI.ext iN).c0,(kI.ext iN).c1,(kI.ext iN).c2⟩
      |exact⟨(kC.ext jB).c0,(kC.ext jB).c1,(kC.ext jB).c2,(kI.ext jB).c0,(kI.ext jB).c1,(kI.ext jB).c2⟩
      |exact⟨(kC.ext (iN.trans jB)).c0,(kC.ext (iN.trans jB)).c1,(kC.ext (iN.trans jB)).c2,(kI.ext (iN.trans jB)).c0,(kI.ext (iN.trans jB)).c1,(kI.ext (iN.trans jB)).c2⟩
      |exact⟨(kC.ext (jB.trans iN)).c0,(kC.ext (jB.trans iN)).c1,(kC.ext (jB.trans iN)).c2,(kI.ext (jB.trans iN)).c0,(kI.ext (jB.trans iN)).c1,(kI.ext (jB.trans iN)).c2⟩)
    (first
      | (go_at_call_of 46 (Value.agg #[.bool s,.slice A L.length c,.int .i64 e])
         refine(HSa.out _ ?_).mono ?_
         (first|exact tf|exact tf.below jB)
         rintro r wx ⟨rfl,iN⟩)
      | (go_at_call_of 46 (Value.agg #[.bool t,.slice B M.length d,.int .i64 f])
         refine(HSb.out _ ?_).mono ?_
         (first|exact xm|exact xm.below iN)
         rintro r wy ⟨rfl,jB⟩))
  first
    | (have pt := iN.trans jB)
    | (have pt := jB.trans iN)
  have cx1 := (kC.ext pt)
  have cx2 := (kI.ext pt)
  have kr := (tf.below pt)
  have mV := (xm.below pt)
  have HFr := akw (HE.out.trans pt);clear iN jB pt;by_cases h1 : sa<sb
  . have hR := akw (show R = -1 by rw[HP.out,bj h1])
    go_wp2;go_ret;exact⟨nS hR.out.symm,HFr.out⟩
  . by_cases h2 : sb<sa
    . have hR := akw (show R=1 by rw[HP.out,bh h1,bj h2])
      go_wp2;go_ret;exact⟨nS hR.out.symm,HFr.out⟩
    . by_cases h3 : sa=0
      . have hR := akw (show R=0 by rw[HP.out,bh h1,bh h2,bj h3])
        have hz : (sa==0)=true := by simp[h3]
        go_wp2;go_ret;exact⟨nS hR.out.symm,HFr.out⟩
      . have hR := akw (show R=sa*cm by rw[HP.out,bh h1,bh h2,bh h3])
        have hz : (sa==0)=false := a7 h3;have HK2 := akw (HK.out (λh => h3 (z1.out.2 h)) (λh => h3 (by have := z2.out.2 h;omega)));have b0 := cx1.c0;have b1 := cx1.c1;have b2 := cx1.c2;have d0 := cx2.c0;have d1 := cx2.c1;have d2 := cx2.c2;go_wp2_with fail;refine(HK2.out _ kr mV).mono ?_;rintro r w3 ⟨rfl,oY⟩;go_wp2;go_ret;exact⟨nS hR.out.symm,HFr.out.trans oY⟩
def R1:gK 1=[1]:=by rw[xx aF];simp[nt]
def X1{L:List Nat}(h:iw L)(hl:L.length<=256)(s:Bool)(e:Int):(gK (canon s (val L) e).m).length<=100000000:=by
 unfold canon;split
 .simp [nt]
 .refine bM (qi (k:=256) (cC (cz _ _) ?_)) aF ;exact bN (lW h) (bG aF hl)
def X0{L:List Nat}(h:iw L)(hl:L.length<=256)(s:Bool)(e:Int)(h1:-9000000<=e)(h2:e<=9000000):-10000000<=(canon s (val L) e).e/\(canon s (val L) e).e<=10000000:=by
 unfold canon;split
 .simp
 .rename_i h0;have:=CK h h0;simp only;omega
def agw(s:Bool)(A:Option Addr)(c:Nat)(L:List Nat)(e k:Int)(w:World)(hs:Sl w A c L)(hd:od s L e)(kx:-32768<=k)(rp:k<=32768)(hr:pe (canon s (val L) (e+k))):
 Calls prog 111 #[.agg #[.bool s,.slice A L.length c,.int .i64 e],.int .i64 k] w (zf w (canon s (val L) (e+k)) 0):=by
 obtain⟨lh,kF⟩:=hd.exp;have hlen:=hd.len;have HV:=akw (λw (h:Sl w A c L)=>Hh s A c L e w true h aD aD (by simp[hd]));have HX:=akw (λw=>agj k w true (by simp[kx,rp]));have hw:IntKind.i64.wrap (e+k)=e+k:=i64_in _ aD aD;have HC:=akw (λw (h:Sl w A c L)=>Ek s A c L (e+k) w h aD aD aD);have kJ:=X1 hs.ok hlen s (e+k);obtain⟨mB,oY⟩:=X0 hs.ok hlen s (e+k) aD aD;have hv:(canon s (val L) (e+k)).gQ:=⟨rj _ _ _,hr⟩
 have HK:=akw (λA c w (h:Sl w A c (gK (canon s (val L) (e+k)).m))=>agf _ A c w h kJ mB oY hv);generalize canon s (val L) (e+k)=D at *
 clear hd hr hv kJ mB oY;go_enter func111,ntmps111;go_wp2_with fail;refine(HV.out _ ((hs.alloc _).alloc _)).mono ?_;rintro r w1 ⟨rfl,kJ⟩;have kC:=((ju.new w s A L.length c e).alloc (.cells #[.bool false,.slice none 0 0,.int .i64 0] 39)).ext kJ;have kI:=(ju.rF (W:=w.alloc (.cells #[.bool s,.slice A L.length c,.int .i64 e] 39)) (g:=w.heap.size+1) aJ false none 0 0 0).ext kJ;have b0:=kC.c0;have b1:=kC.c1;have b2:=kC.c2;have hE:=(((iu.alloc w (.cells #[.bool s,.slice A L.length c,.int .i64 e] 39)).trans (iu.alloc _ (.cells #[.bool false,.slice none 0 0,.int .i64 0] 39))).trans kJ)
 have tf:=hs.below hE;have HE:=akw hE;clear hE kJ;go_wp2_with fail;refine(HX.out _).mono ?_;rintro r w2 ⟨rfl,rfl⟩;go_wp2_with fail;refine(HC.out _ tf).mono ?_;rintro r w2 ⟨A1,c1,rfl,rY,mB⟩;go_wp2_with fail;refine(HK.out _ _ _ rY).mono ?_;rintro r w3 ⟨A2,c2,rfl,kr,oY⟩;have bz:=kI.ext (mB.trans oY);have z0:=bz.c0;have z1:=bz.c1;have z2:=bz.c2;have f0:=bz.fr 0;have f1:=bz.fr 1;have f2:=bz.fr 2;go_wp2;exact CP rfl rfl rfl rfl (bz.set _ _ _ _ _) rfl (bz.sM kr _ _ _ _ _) (ju.sc (HE.out.trans (mB.trans oY)) aD _ _ _ _ _)
abbrev DV(d:Dy)(A:Option Addr)(c:Nat):Value:=.agg #[.bool d.neg,.slice A (gK d.m).length c,.int .i64 d.e]
def BJ{n k:Nat}(h:gU n<=32*k):(gK n).length<=k:=by
 refine qi (bN (px _) ?_);rw[nB];exact bG aF h
def Fp.Dy.gQ.tY{d:Dy}(h:d.gQ):od d.neg (gK d.m) d.e:=by
 refine⟨uK _,BJ ?_,by rw[jR];exact h⟩;rcases h.range with h0|⟨h1,_⟩
 .rw [h0];exact b6 _
 .omega
def Fp.Dy.gQ.len{d:Dy}(h:d.gQ):(gK d.m).length<=256:=h.tY.2.1
def Fp.Dy.gQ.exp{d:Dy}(h:d.gQ):-16384<=d.e/\d.e<=16384:=h.tY.exp
def Fp.Dy.gQ.bits{d:Dy}(h:d.gQ):gU d.m<=4096:=by have:=h.tY.bits;rwa[jR]at this
def ju.all{w:World}{g n c:Nat}{s:Bool}{A:Option Addr}{e:Int}(h:ju w g s A n c e):w.cell? ⟨g,0,none⟩=some (.bool s)/\w.cell? ⟨g,1,none⟩=some (.slice A n c)/\w.cell? ⟨g,2,none⟩=some (.int .i64 e):=⟨h.c0,h.c1,h.c2⟩
def ju.wU{w:World}{g n c:Nat}{s:Bool}{A:Option Addr}{e:Int}(h:ju w g s A n c e){g':Nat}(kV:g'≠g)(i:Nat)(v:Value):ju (w.setCell ⟨g',i,none⟩ v) g s A n c e:=by
 unfold ju at h ⊢;simp only[World.setCell,cY];rw[bh kV];exact h
def ju.JF{w:World}{g n c:Nat}{s:Bool}{A:Option Addr}{e:Int}(h:ju w g s A n c e){g':Nat}(kV:g'≠g)(v0 v1 v2:Value):
 ju (((w.setCell ⟨g',0,none⟩ v0).setCell ⟨g',1,none⟩ v1).setCell ⟨g',2,none⟩ v2) g s A n c e:=((h.wU kV 0 v0).wU kV 1 v1).wU kV 2 v2
structure tJ(d:Dy):Prop where
 len:(gK d.m).length<=256
 lo:-17000<=d.e
 hi:d.e<=17000
def Fp.Dy.gQ.ng{d:Dy}(h:d.gQ):tJ d:=⟨h.len,by have:=h.exp;omega,by have:=h.exp;omega⟩
def ags(a b:Dy)(A B:Option Addr)(c d:Nat)(w:World)(h:Sl w A c (gK a.m))(k:Sl w B d (gK b.m))(ha:tJ a)(hb:tJ b):
 Calls prog 265 #[DV a A c,DV b B d] w (sO w (mK a b)):=by
 have:=agr a.neg A c (gK a.m) a.e b.neg B d (gK b.m) b.e w h k (by have:=ha.len;omega) (by have:=hb.len;omega) (by have:=ha.lo;omega) (by have:=ha.hi;omega) (by have:=hb.lo;omega) (by have:=hb.hi;omega);rw[jR,jR]at this;exact this
def agi(a b:Dy)(A B:Option Addr)(c d:Nat)(w:World)(r:Bool)(h:Sl w A c (gK a.m))(k:Sl w B d (gK b.m))(ha:(gK a.m).length<=100000)(hb:(gK b.m).length<=100000)(hr:r=true↔a=b):
 Calls prog 83 #[DV a A c,DV b B d] w λe w'=>e = .returned (.bool r)/\iu w w':=
 agh a.neg A c (gK a.m) a.e b.neg B d (gK b.m) b.e w r h k (uK _) (uK _) ha hb (by
  rw[hr];obtain⟨s,m,e⟩:=a;obtain⟨t,n,f⟩:=b;simp only[Dy.mk.injEq];constructor
  .rintro ⟨x,y,z⟩;exact⟨x,z,by rw[y]⟩
  .rintro ⟨x,y,z⟩;have:=congrArg val z;rw[jR,jR]at this;exact⟨x,this,y⟩)
def Ze(a b:Dy)(A B:Option Addr)(c d:Nat)(w:World)(h:Sl w A c (gK a.m))(k:Sl w B d (gK b.m))(ha:a.gQ)(hb:b.gQ):
 Calls prog 122 #[DV a A c,DV b B d] w λe w'=>e = .returned (.int .i64 (jh a b))/\iu w w':=by
 have:=Zd a.neg A c (gK a.m) a.e b.neg B d (gK b.m) b.e w h k ha.tY hb.tY;rw[jR,jR]at this;exact this
def Zc(a:Dy)(A:Option Addr)(c:Nat)(w:World)(h:Sl w A c (gK a.m))(ha:a.gQ):
 Calls prog 306 #[DV a A c] w λe w'=>e = .returned (.int .i64 (gU a.m))/\iu w w':=by
 have:=Zb a.neg A c (gK a.m) a.e w h ha.tY;rw[jR]at this;exact this
def Zj(a:Dy)(A:Option Addr)(c:Nat)(w:World)(h:Sl w A c (gK a.m))(ha:a.gQ):
 Calls prog 46 #[DV a A c] w λe w'=>e = .returned (.int .i64 a.jc)/\iu w w':=by
 have:=Ji a.neg A c (gK a.m) a.e w h ha.tY;rw[jR]at this;exact this
def OR(a:Dy)(A:Option Addr)(c:Nat)(w:World)(h:Sl w A c (gK a.m))(ha:a.gQ):
 Calls prog 92 #[DV a A c] w λe w'=>e = .returned (.bool true)/\iu w w':=
 zx a.neg A c (gK a.m) a.e w true h (by have:=ha.exp;omega) (by have:=ha.exp;omega) (by simp[ha.tY])
open Pu
def MU:∀ w w',Tb w->Below w.heap.size w w'->Tb w':=λ_ _ h hb=>h.below hb
def mixed:prog.follows .mixedOrders=true:= aG 
abbrev gJ(f:FuncId)(args:List E)(jQ:E):Prop:=PC prog Tb f args jQ
def gO(L:List Nat):E:=.sl false L.length 1 λi _=>.v (.int .u32 (L.getD i 0:Int))
def gM(d:Dy):E:=.agg [.v (.bool d.neg),gO (gK d.m),.v (.int .i64 d.e)]
abbrev iP(z:Int):E:=.v (.int .i64 z)
abbrev bP(b:Bool):E:=.v (.bool b)
abbrev aq:List E:=[bP false,.v (.slice none 0 0),iP 0]
abbrev ar:List E:=[bP false,.v (.slice none 0 0),iP 0,bP false,.v (.slice none 0 0),iP 0,bP false]
def uJ{bs br:Nat->Prop}{w:World}{L:List Nat}{v:Value}(hk:iw L)(h:iz bs br w (gO L) v):∃ A c,v = .slice A L.length c/\Sl w A c L:=by
 cases h with
 |sl _ _ _ _ A c f hc hm h0 hl hr cell kk=>
  refine⟨A,c,rfl,hc,hm,hk,h0,λi x hx=>?_⟩;obtain⟨hi,yp⟩:=cg.1 hx;obtain⟨b,o,e1,_,iE,lk⟩:=cell i 0 hi aF;have hv:=iz.kE (kk i 0 hi aF);refine⟨b,o,e1,iE,?_⟩;rw[bW,bK,hv]at lk;rw[lk];simp[bn,hx]
def wJ{B br:Nat->Prop}{w w':World}{A:Option Addr}{c:Nat}{L:List Nat}(hB:∀ b,B b->b<w.heap.size/\oe w b)(hb:iu w w')(h:Sl w' A c L):iz B br w' (gO L) (.slice A L.length c):=by
 refine .sl false L.length 1 _ A c (λi _=>.int .u32 (L.getD i 0:Int)) h.cap h.pg h.vw (λi j _ _=>⟨rfl,λh=>by cases h⟩) (λi j _ _=>rfl) (λi j hi hj=>?_) (λi j _ _=>.v _)
 .obtain rfl:j=0:= aD ;obtain⟨b,o,e1,iE,lk⟩:=h.k0 hi;have e2:L.getD i 0=L[i]:=by simp[bn,hi]
  refine⟨b,o,e1,λmS=>?_,iE,by rw[bW,bK,lk,e2]⟩;obtain⟨h1,h2⟩:=hB b mS;exact(h2.BR (hb.block b h1)) _ _ lk
def Fu{bs br:Nat->Prop}{w:World}{d:Dy}{v:Value}(h:iz bs br w (gM d) v):∃ A c,v=DV d A c/\Sl w A c (gK d.m):=by
 obtain⟨vs,rfl,q⟩:=iz.AX (show iz bs br w (.agg _) v from h);obtain⟨v1,vs,rfl,h1,q⟩:=q.lV;obtain⟨v2,vs,rfl,h2,q⟩:=q.lV;obtain⟨v3,vs,rfl,h3,q⟩:=q.lV;obtain rfl:=q.ph;obtain rfl:=iz.kE h1;obtain rfl:=iz.kE h3;obtain⟨A,c,rfl,hs⟩:=uJ (kO _) h2;exact⟨A,c,rfl,hs⟩
def OP{B br:Nat->Prop}{w w':World}{A:Option Addr}{c:Nat}{d:Dy}(hB:∀ b,B b->b<w.heap.size/\oe w b)(hb:iu w w')(h:Sl w' A c (gK d.m)):iz B br w' (gM d) (DV d A c):=
 kj.agg (.cons (.v _) (.cons (wJ hB hb h) (.cons (.v _) (.nil _ _ _))))
section
variable {f:FuncId} {a b:Dy}
def xE(hc:∀ (vs:Array Value) (w:World),(callFunc f vs).run prog w = .ok (.enter f vs) w){jQ:E}{R:World->Ending->World->Prop}
 (H:∀ A c w,Sl w A c (gK a.m)->Tb w->Calls prog f #[DV a A c] w (R w)) (hR:∀ (B:Nat->Prop) w e w',(∀ b,B b->b<w.heap.size/\oe w b)->R w e w'->∃ v,e = .returned v/\Below w.heap.size w w'/\iz B (λ_=>True) w' jQ v):gJ f [gM a] jQ:=by
 refine⟨hc,λw B vs hK hB hr=>?_⟩;obtain⟨v1,vs,rfl,h1,hr⟩:=hr.lV;obtain rfl:=hr.ph;obtain⟨A,c,rfl,s1⟩:=Fu h1;exact(H A c w s1 hK).mono λe w' h=>hR B w e w' hB h
def LI(hc:∀ (vs:Array Value) (w:World),(callFunc f vs).run prog w = .ok (.enter f vs) w){jQ:E}{R:World->Ending->World->Prop}
 (H:∀ A c A' c' w,Sl w A c (gK a.m)->Sl w A' c' (gK b.m)->Tb w->Calls prog f #[DV a A c,DV b A' c'] w (R w)) (hR:∀ (B:Nat->Prop) w e w',(∀ b,B b->b<w.heap.size/\oe w b)->R w e w'->∃ v,e = .returned v/\Below w.heap.size w w'/\iz B (λ_=>True) w' jQ v):gJ f [gM a,gM b] jQ:=by
 refine⟨hc,λw B vs hK hB hr=>?_⟩;obtain⟨v1,vs,rfl,h1,hr⟩:=hr.lV;obtain⟨v2,vs,rfl,h2,hr⟩:=hr.lV;obtain rfl:=hr.ph;obtain⟨A,c,rfl,s1⟩:=Fu h1;obtain⟨A',c',rfl,s2⟩:=Fu h2;exact(H A c A' c' w s1 s2 hK).mono λe w' h=>hR B w e w' hB h
end
def rv{x:Value}:∀ (B:Nat->Prop) (w:World) (e:Ending) (w':World),(∀ b,B b->b<w.heap.size/\oe w b)->(e = .returned x/\iu w w')->∃ v,e = .returned v/\Below w.heap.size w w'/\iz B (λ_=>True) w' (.v x) v:=
 λ_ _ _ _ _ h=>⟨x,h.1,h.2,.v x⟩
def rd{d:Dy}:∀ (B:Nat->Prop) (w:World) (e:Ending) (w':World),(∀ b,B b->b<w.heap.size/\oe w b)->sO w d e w'->∃ v,e = .returned v/\Below w.heap.size w w'/\iz B (λ_=>True) w' (gM d) v:=
 λ_ _ _ _ hB ⟨_,_,h1,h2,h3⟩=>⟨_,h1,h3,OP hB h3 h2⟩
def UP{d:Dy}{n:Int}:∀ (B:Nat->Prop) (w:World) (e:Ending) (w':World),(∀ b,B b->b<w.heap.size/\oe w b)->zf w d n e w'->∃ v,e = .returned v/\Below w.heap.size w w'/\iz B (λ_=>True) w' (.hH [gM d,iP n]) v:=
 λ_ _ _ _ hB ⟨_,_,h1,h2,h3⟩=>⟨_,h1,h3,kj.hH (.cons (OP hB h3 h2) (.cons (.v _) (.nil _ _ _)))⟩
def qM:E.le (.agg aq) (gM ix):=by
 have:gM ix = .agg [bP false,.sl false 0 1 λi _=>.v (.int .u32 (((gK 0).getD i 0:Nat):Int)),iP 0]:=by
  show E.agg [bP false,gO (gK 0),iP 0]=_;unfold gO;rw[nt];rfl
 rw[this];exact .agg (.cons (.refl _) (.cons (.nil _ _ _) (.cons (.refl _) .nil)))
def nT(a b:Dy)(ha:a.gQ)(hb:b.gQ):gJ 122 [gM a,gM b] (iP (jh a b)):=LI call122 (λA c A' c' w h k _=>Ze a b A A' c c' w h k ha hb) rv
def tZ(a:Dy)(ha:a.gQ):gJ 46 [gM a] (iP a.jc):=xE call46 (λA c w h _=>Zj a A c w h ha) rv
def rS(a:Dy)(ha:a.gQ):gJ 92 [gM a] (bP true):=xE call92 (λA c w h _=>OR a A c w h ha) rv
def ON(a:Dy)(ha:a.gQ):gJ 306 [gM a] (iP (gU a.m)):=xE call306 (λA c w h _=>Zc a A c w h ha) rv
def agt(a b:Dy)(ha:tJ a)(hb:tJ b):gJ 265 [gM a,gM b] (gM (mK a b)):=LI call265 (λA c A' c' w h k _=>ags a b A A' c c' w h k ha hb) rd
def TT:List TI:=[
 ⟨3,.int .i64,⟨.int .i64, "int", 1,8,false,8,8,some (.int .i64 0),true,#[]⟩⟩,
 ⟨4,.bool,⟨.bool, "bool", 1,1,false,1,1,some (.bool false),true,#[]⟩⟩,
 ⟨9,.string,⟨.string, "string", 1,16,true,8,8,some (.string ⟨#[]⟩),true,#[]⟩⟩,
 ⟨22,.slice 74,⟨.slice 74, "[]api.Op", 1,24,true,8,8,some (.slice none 0 0),false,#[]⟩⟩,
 ⟨23,.slice 3,⟨.slice 3, "[]int", 1,24,true,8,8,some (.slice none 0 0),false,#[]⟩⟩,
 ⟨25,.struct #[⟨"Ins", 3,0,false, "", "", 0⟩,⟨"Ops", 22,1,false, "", "", 8⟩,⟨"Outs", 23,2,false, "", "", 32⟩],⟨.named "flowpipe/api.Tape" 24, "api.Tape", 3,56,true,8,8,some (.agg #[.int .i64 0,.slice none 0 0,.slice none 0 0]),false,#[]⟩⟩,
 ⟨26,.slice 46,⟨.slice 46, "[]api.Interval", 1,24,true,8,8,some (.slice none 0 0),false,#[]⟩⟩,
 ⟨28,.struct #[⟨"Tape", 25,0,false, "", "", 0⟩,⟨"States", 3,3,false, "", "", 56⟩,⟨"Params", 26,4,false, "", "", 64⟩],⟨.named "flowpipe/api.System" 27, "api.System", 5,88,true,8,8,some (.agg #[.int .i64 0,.slice none 0 0,.slice none 0 0,.int .i64 0,.slice none 0 0]),false,#[]⟩⟩,
 ⟨31,.func #[26] #[4] false,⟨.func #[26] #[4] false, "func([]api.Interval) bool", 1,8,true,8,8,some (.nilFunc),false,#[]⟩⟩,
 ⟨34,.int .i8,⟨.int .i8, "int8", 1,1,false,1,1,some (.int .i8 0),true,#[]⟩⟩,
 ⟨37,.slice 150,⟨.slice 150, "[]uint32", 1,24,true,8,8,some (.slice none 0 0),false,#[]⟩⟩,
 ⟨39,.struct #[⟨"Neg", 4,0,false, "", "", 0⟩,⟨"M", 37,1,false, "", "", 8⟩,⟨"E", 3,2,false, "", "", 32⟩],⟨.named "flowpipe/api.Dyadic" 38, "api.Dyadic", 3,40,true,8,8,some (.agg #[.bool false,.slice none 0 0,.int .i64 0]),false,#[]⟩⟩,
 ⟨43,.func #[26,26] #[4] false,⟨.func #[26,26] #[4] false, "func([]api.Interval, []api.Interval) bool", 1,8,true,8,8,some (.nilFunc),false,#[]⟩⟩,
 ⟨46,.struct #[⟨"Lo", 39,0,false, "", "", 0⟩,⟨"Hi", 39,3,false, "", "", 40⟩,⟨"All", 4,6,false, "", "", 80⟩],⟨.named "flowpipe/api.Interval" 45, "api.Interval", 7,88,true,8,8,some (.agg #[.bool false,.slice none 0 0,.int .i64 0,.bool false,.slice none 0 0,.int .i64 0,.bool false]),false,#[]⟩⟩,
 ⟨48,.slice 26,⟨.slice 26, "[][]api.Interval", 1,24,true,8,8,some (.slice none 0 0),false,#[]⟩⟩,
 ⟨49,.int .i64,⟨.named "flowpipe/api.Errno" 3, "api.Errno", 1,8,false,8,8,some (.int .i64 0),true,#[]⟩⟩,
 ⟨59,.func #[46,46] #[4] false,⟨.func #[46,46] #[4] false, "func(api.Interval, api.Interval) bool", 1,8,true,8,8,some (.nilFunc),false,#[]⟩⟩,
 ⟨64,.func #[46] #[4] false,⟨.func #[46] #[4] false, "func(api.Interval) bool", 1,8,true,8,8,some (.nilFunc),false,#[]⟩⟩,
 ⟨72,.struct #[⟨"N", 3,0,false, "", "", 0⟩,⟨"D", 3,1,false, "", "", 8⟩],⟨.named "flowpipe/api.Ratio" 71, "api.Ratio", 2,16,false,8,8,some (.agg #[.int .i64 0,.int .i64 0]),true,#[]⟩⟩,
 ⟨74,.struct #[⟨"Kind", 3,0,false, "", "", 0⟩,⟨"A", 3,1,false, "", "", 8⟩,⟨"B", 3,2,false, "", "", 16⟩,⟨"N", 3,3,false, "", "", 24⟩,⟨"C", 72,4,false, "", "", 32⟩],⟨.named "flowpipe/api.Op" 73, "api.Op", 6,48,false,8,8,some (.agg #[.int .i64 0,.int .i64 0,.int .i64 0,.int .i64 0,.int .i64 0,.int .i64 0]),true,#[]⟩⟩,
 ⟨78,.slice 80,⟨.slice 80, "[]api.Expr", 1,24,true,8,8,some (.slice none 0 0),false,#[]⟩⟩,
 ⟨80,.struct #[⟨"Kind", 3,0,false, "", "", 0⟩,⟨"Num", 72,1,false, "", "", 8⟩,⟨"Name", 9,3,false, "", "", 24⟩,⟨"N", 3,4,false, "", "", 40⟩,⟨"L", 78,5,false, "", "", 48⟩],⟨.named "flowpipe/api.Expr" 79, "api.Expr", 6,72,true,8,8,some (.agg #[.int .i64 0,.int .i64 0,.int .i64 0,.string ⟨#[]⟩,.int .i64 0,.slice none 0 0]),false,#[]⟩⟩,
 ⟨85,.slice 9,⟨.slice 9, "[]string", 1,24,true,8,8,some (.slice none 0 0),false,#[]⟩⟩,
 ⟨96,.func #[46,46,3] #[46] false,⟨.func #[46,46,3] #[46] false, "func(api.Interval, api.Interval, int) api.Interval", 1,8,true,8,8,some (.nilFunc),false,#[]⟩⟩,
 ⟨104,.func #[3] #[4] false,⟨.func #[3] #[4] false, "func(int) bool", 1,8,true,8,8,some (.nilFunc),false,#[]⟩⟩,
 ⟨131,.func #[3] #[46] false,⟨.func #[3] #[46] false, "func(int) api.Interval", 1,8,true,8,8,some (.nilFunc),false,#[]⟩⟩,
 ⟨150,.int .u32,⟨.int .u32, "uint32", 1,4,false,4,4,some (.int .u32 0),true,#[]⟩⟩,
 ⟨151,.int .u64,⟨.int .u64, "uint64", 1,8,false,8,8,some (.int .u64 0),true,#[]⟩⟩,
 ⟨160,.func #[39,3] #[39,49] false,⟨.func #[39,3] #[39,49] false, "func(api.Dyadic, int) (api.Dyadic, api.Errno)", 1,8,true,8,8,some (.nilFunc),false,#[]⟩⟩,
 ⟨166,.int .u64,⟨.int .u64, "uint", 1,8,false,8,8,some (.int .u64 0),true,#[]⟩⟩,
 ⟨168,.slice 170,⟨.slice 170, "[][2]api.Dyadic", 1,24,true,8,8,some (.slice none 0 0),false,#[]⟩⟩,
 ⟨170,.array 2 39,⟨.array 2 39, "[2]api.Dyadic", 6,80,true,8,8,some (.agg #[.bool false,.slice none 0 0,.int .i64 0,.bool false,.slice none 0 0,.int .i64 0]),false,#[]⟩⟩,
 ⟨173,.func #[3,3,46] #[46] false,⟨.func #[3,3,46] #[46] false, "func(int, int, api.Interval) api.Interval", 1,8,true,8,8,some (.nilFunc),false,#[]⟩⟩,
 ⟨200,.func #[39,39,3] #[39,49] false,⟨.named "flowpipe/interval.rounded" 142, "interval.rounded", 1,8,true,8,8,some (.nilFunc),false,#[]⟩⟩,
 ⟨201,.array 4 170,⟨.array 4 170, "[4][2]api.Dyadic", 24,320,true,8,8,some (.agg #[.bool false,.slice none 0 0,.int .i64 0,.bool false,.slice none 0 0,.int .i64 0,.bool false,.slice none 0 0,.int .i64 0,.bool false,.slice none 0 0,.int .i64 0,.bool false,.slice none 0 0,.int .i64 0,.bool false,.slice none 0 0,.int .i64 0,.bool false,.slice none 0 0,.int .i64 0,.bool false,.slice none 0 0,.int .i64 0]),false,#[]⟩⟩,
 ⟨210,.struct #[⟨"m", 37,0,false, "", "flowpipe/round", 0⟩,⟨"e", 3,1,false, "", "flowpipe/round", 24⟩,⟨"more", 4,2,false, "", "flowpipe/round", 32⟩],⟨.named "flowpipe/round.exact" 209, "round.exact", 3,40,true,8,8,some (.agg #[.slice none 0 0,.int .i64 0,.bool false]),false,#[]⟩⟩,
 ⟨216,.map 3 220,⟨.map 3 220, "map[int]func(gradient.node) api.Interval", 1,8,true,8,8,some (.map none),false,#[]⟩⟩,
 ⟨219,.struct #[⟨"o", 74,0,false, "", "flowpipe/gradient", 0⟩,⟨"v", 46,6,false, "", "flowpipe/gradient", 48⟩,⟨"a", 46,13,false, "", "flowpipe/gradient", 136⟩,⟨"b", 46,20,false, "", "flowpipe/gradient", 224⟩,⟨"da", 46,27,false, "", "flowpipe/gradient", 312⟩,⟨"db", 46,34,false, "", "flowpipe/gradient", 400⟩,⟨"p", 3,41,false, "", "flowpipe/gradient", 488⟩],⟨.named "flowpipe/gradient.node" 218, "gradient.node", 42,496,true,8,8,some (.agg #[.int .i64 0,.int .i64 0,.int .i64 0,.int .i64 0,.int .i64 0,.int .i64 0,.bool false,.slice none 0 0,.int .i64 0,.bool false,.slice none 0 0,.int .i64 0,.bool false,.bool false,.slice none 0 0,.int .i64 0,.bool false,.slice none 0 0,.int .i64 0,.bool false,.bool false,.slice none 0 0,.int .i64 0,.bool false,.slice none 0 0,.int .i64 0,.bool false,.bool false,.slice none 0 0,.int .i64 0,.bool false,.slice none 0 0,.int .i64 0,.bool false,.bool false,.slice none 0 0,.int .i64 0,.bool false,.slice none 0 0,.int .i64 0,.bool false,.int .i64 0]),false,#[]⟩⟩,
 ⟨220,.func #[219] #[46] false,⟨.func #[219] #[46] false, "func(gradient.node) api.Interval", 1,8,true,8,8,some (.nilFunc),false,#[]⟩⟩,
 ⟨227,.slice 37,⟨.slice 37, "[][]uint32", 1,24,true,8,8,some (.slice none 0 0),false,#[]⟩⟩,
 ⟨229,.func #[37] #[4] false,⟨.func #[37] #[4] false, "func([]uint32) bool", 1,8,true,8,8,some (.nilFunc),false,#[]⟩⟩,
 ⟨233,.slice 39,⟨.slice 39, "[]api.Dyadic", 1,24,true,8,8,some (.slice none 0 0),false,#[]⟩⟩,
 ⟨257,.struct #[⟨"p", 3,0,false, "", "flowpipe/exponent", 0⟩],⟨.named "flowpipe/exponent.work" 256, "exponent.work", 1,8,false,8,8,some (.agg #[.int .i64 0]),true,#[⟨"flowpipe/exponent.add", 198,#[],some (389,false)⟩,⟨"flowpipe/exponent.div", 198,#[],some (388,false)⟩,⟨"flowpipe/exponent.exp", 138,#[],some (401,false)⟩,⟨"flowpipe/exponent.halved", 224,#[],some (387,false)⟩,⟨"flowpipe/exponent.log", 138,#[],some (390,false)⟩,⟨"flowpipe/exponent.mul", 198,#[],some (391,false)⟩,⟨"flowpipe/exponent.small", 64,#[],some (403,false)⟩]⟩⟩,
 ⟨264,.struct #[⟨"neg", 4,0,false, "", "flowpipe/circle", 0⟩,⟨"m", 37,1,false, "", "flowpipe/circle", 8⟩],⟨.named "flowpipe/circle.fix" 263, "circle.fix", 2,32,true,8,8,some (.agg #[.bool false,.slice none 0 0]),false,#[⟨"flowpipe/circle.add", 275,#[],some (416,false)⟩,⟨"flowpipe/circle.by", 271,#[],some (419,false)⟩,⟨"flowpipe/circle.minus", 269,#[],some (407,false)⟩,⟨"flowpipe/circle.times", 272,#[],some (413,false)⟩,⟨"flowpipe/circle.zero", 29,#[],some (417,false)⟩]⟩⟩,
 ⟨275,.func #[264] #[264] false,⟨.func #[264] #[264] false, "func(circle.fix) circle.fix", 1,8,true,8,8,some (.nilFunc),false,#[]⟩⟩]
def zg:me prog TT:=EP.ok ⟨⟨underlying3,aG⟩,⟨underlying4,aG⟩,⟨underlying9,aG⟩,⟨underlying22,aG⟩,⟨underlying23,aG⟩,⟨underlying25,aG⟩,⟨underlying26,aG⟩,⟨underlying28,aG⟩,⟨underlying31,aG⟩,⟨underlying34,aG⟩,⟨underlying37,aG⟩,⟨underlying39,aG⟩,⟨underlying43,aG⟩,⟨underlying46,aG⟩,⟨underlying48,aG⟩,⟨underlying49,aG⟩,⟨underlying59,aG⟩,⟨underlying64,aG⟩,⟨underlying72,aG⟩,⟨underlying74,aG⟩,⟨underlying78,aG⟩,⟨underlying80,aG⟩,⟨underlying85,aG⟩,⟨underlying96,aG⟩,⟨underlying104,aG⟩,⟨underlying131,aG⟩,⟨underlying150,aG⟩,⟨underlying151,aG⟩,⟨underlying160,aG⟩,⟨underlying166,aG⟩,⟨underlying168,aG⟩,⟨underlying170,aG⟩,⟨underlying173,aG⟩,⟨underlying200,aG⟩,⟨underlying201,aG⟩,⟨underlying210,aG⟩,⟨underlying216,aG⟩,⟨underlying219,aG⟩,⟨underlying220,aG⟩,⟨underlying227,aG⟩,⟨underlying229,aG⟩,⟨underlying233,aG⟩,⟨underlying257,aG⟩,⟨underlying264,aG⟩,⟨underlying275,aG⟩,trivial⟩
end Go.Proofs.YtkjkcjhacddojaaGreatDoor
namespace Go.Proofs.YtkjkcjhacddojaaGreatDoor.Pu
open Go.RowKit
def E.ke:E->Nat->Nat->E
 | .sl _ _ _ el,i,j=>el i j
 |_,_,_=>.any
section
variable {P:Program} {K:World->Prop}
def Sp.pre{c:Code}{σ τ:PS}{Q:Ex->PS->Prop}(h:PS.le σ τ)(k:Sp P K c τ Q):Sp P K c σ Q:=λw0 B a w L g r=>
 let⟨L',r'⟩:=h w0 B a w L (λb hb=>(g.hB b hb).1) r;k w0 B a w L' g r'
def Sp.post{c:Code}{σ:PS}{Q Q':Ex->PS->Prop}(h:Sp P K c σ Q)(k:∀ e τ,Q e τ->∃ τ',PS.le τ τ'/\Q' e τ'):Sp P K c σ Q':=λw0 B a w L g r=>
 Code.wp_mono (λ_ _ _ ⟨ex,τ,L',h1,h2,h3⟩=>let⟨τ',q1,q2⟩:=k ex τ h2;let⟨L2,r2⟩:=q1 w0 B _ _ L' (λb hb=>(g.hB b hb).1) h3;⟨ex,τ',L2,h1,q2,r2⟩) (h w0 B a w L g r)
def Sp.fam{α:Type}(f:α->PS)(p:α->Prop)(m:α->Nat){b:Code}{e:Ex}{τ:PS}
 (step:∀ x,p x->Sp P K b (f x) (λe' υ=>(e' = .normal/\∃ y,p y/\m y<m x/\υ=f y)\/(e' ≠ .normal/\e'=e/\υ=τ))) {σ:PS} (x:α) (hx:p x) (h0:PS.le σ (f x)):
 Sp P K (.loop b) σ (λe' υ=>e'=e/\υ=τ):=by
 refine Sp.pre h0 ?_;refine Sp.loop (Q:=λe' υ=>e'=e/\υ=τ) (λn σ=>∃ x,p x/\m x=n/\σ=f x) (λn σ ⟨x,h1,h2,h3⟩=>?_) (m x) (f x) ⟨x,hx,rfl,rfl⟩;subst h3 h2;exact(step x h1).mono λe' υ h=>h.imp (λ⟨q1,y,q2,q3,q4⟩=>⟨q1,m y,q3,y,q2,rfl,q4⟩) id
def Sp.aah{α:Type}{f:α->PS}{p:α->Prop}{m:α->Nat}{b:Code}{e:Ex}{τ υ:PS}{x:α}(y:α)(h:Sp P K b (f x) (λe' υ'=>e' = .normal/\υ'=υ))(hy:p y)(hm:m y<m x)(hl:PS.le υ (f y)):
 Sp P K b (f x) (λe' υ=>(e' = .normal/\∃ y,p y/\m y<m x/\υ=f y)\/(e' ≠ .normal/\e'=e/\υ=τ)):=
 h.post λ_ _ ⟨h1,h2⟩=>⟨f y,h2▸hl,.inl ⟨h1,y,hy,hm,rfl⟩⟩
def Sp.aai{α:Type}{f:α->PS}{p:α->Prop}{m:α->Nat}{b:Code}{e:Ex}{τ υ:PS}{x:α}(h:Sp P K b (f x) (λe' υ'=>e'=e/\υ'=υ))(he:e ≠ .normal)(hl:PS.le υ τ):
 Sp P K b (f x) (λe' υ=>(e' = .normal/\∃ y,p y/\m y<m x/\υ=f y)\/(e' ≠ .normal/\e'=e/\υ=τ)):=
 h.post λ_ _ ⟨h1,h2⟩=>⟨τ,h2▸hl,.inr ⟨h1▸he,h1,rfl⟩⟩
end
def yH(k:Nat):Code->Option Code
 | .loop b=>if Nat.beq (CU b) k then some b else yH k b
 | .seq a b=>match yH k a with
  |some c=>some c
  |none=>yH k b
 | .cond _ a b=>match yH k a with
  |some c=>some c
  |none=>yH k b
 | .block _ b=>yH k b
 | .scope b=>yH k b
 |_=>none
def XU(k:Nat)(fn:Func):Code:=((fn.body.bind (yH k)).getD .skip)
def Bx.le.iD{a b:Bx}(h:a=b):Bx.le a b:=h▸Bx.le.refl a
def Bx.le.cells{T:TypeId}{l m:List E}(hn:(l.all E.mX=true->m.all E.mX=true))(h:sf l m):Bx.le (.cells T l) (.cells T m):=⟨hn,λ_ _ _ _ _ ⟨b,vs,h1,h2,h3,h4,h5⟩=>⟨b,vs,h1,h2,h3,h.Hj h4,h5⟩⟩
def Bx.le.row{nl:Bool}{T:TypeId}{n n' sz:Nat}{el el':Nat->Nat->E}(hn:n=n')(h:∀ i j,i<n->j<sz->E.le (el i j) (el' i j)/\(el' i j).nr 2=true):Bx.le (.row nl T n sz el) (.row nl T n' sz el'):=
 ⟨id,λ_ _ _ _ _ ⟨f,h1,h2,h3⟩=>by subst hn;exact⟨f,h1,h2,λi j hi hj=>⟨(h i j hi hj).1 _ _ _ _ (h3 i j hi hj).1,(h i j hi hj).2⟩⟩⟩
def Bx.le.iH{nl:Bool}{T1 T0:TypeId}{n n' sz:Nat}{len len':Nat->Nat}{el el':Nat->Nat->Nat->E}{pend:Option Nat}(hn:n=n')(hl:∀ k,k<n->len k=len' k)
 (h:∀ k i j,k<n->i<len k->j<sz->E.le (el k i j) (el' k i j)/\(el' k i j).nr 2=true):Bx.le (.iH nl T1 T0 n sz len el pend) (.iH nl T1 T0 n' sz len' el' pend):=
 ⟨id,λ_ _ _ _ _ ⟨b,c,cur,f,h1,h2,h3,h4,h5,h6,h7,h8,h9,sU,uf⟩=>by
  subst hn;refine⟨b,c,cur,f,h1,h2,h3,h4,h5,h6,h7,λk hk=>?_,h9,sU,uf⟩;rw[<-hl k hk];exact⟨(h8 k hk).1,λi j hi hj=>⟨(h k i j hk hi hj).1 _ _ _ _ ((h8 k hk).2 i j hi hj).1,(h k i j hk hi hj).2⟩⟩⟩
def PS.le.acC{σ τ:PS}(hn:σ.n=τ.n)(jZ:(τ.b.all λx=>x.2.nl)=true)(hr:El τ=true)(ht:vJ σ τ.t)(hb:uM σ τ.b):PS.le σ τ:=λw0 B a w L _ r=>by
 let L':Lk:=⟨λid=>L.nR id/\(τ.bo id).isSome=true,λid x=>L.own id x/\(τ.bo id).isSome=true,L.val,L.jm⟩
 have iE:se L w L' w:=⟨bp _,λx _ ⟨id,h,_⟩=>⟨id,h⟩,λ_ _ _=>rfl⟩
 refine⟨L',r.hd,by rw[<-hn];exact r.hs,λt=>?_,λid b h=>?_,λid=>?_,λid x h=>⟨r.hn id x h.1,h.2⟩,λid x h=>r.hw id x h.1,λid id' x h k=>r.hi id id' x h.1 k.1,r.he,λh id b k=>?_⟩
 .have hg:τ.get t=((look τ.t t)).getD (.e .any):=rfl;cases hl:look τ.t t with
  |none=>rw[hg,hl];exact .any _
  |some p=>
   rw[hg,hl];have:=ht.get hl _ _ _ _ _ (r.ht t);refine nx.move iE this λid hid uk=>⟨⟨uk,?_⟩,rfl,λ_=>rfl⟩
   have q:=bS.1 hr _ (K7 hl);exact bS.1 q id hid
 .obtain ⟨b',h1,h2⟩:=hb.get h;have hs:(τ.bo id).isSome=true:=by rw[h];rfl
  exact(h2.2 _ _ _ _ _ (r.hb id b' h1)).later iE rfl (λx=>⟨λq=>q.1,λq=>⟨q,hs⟩⟩) (λ_=>rfl) λ_ _=>rfl
 .show L.nR id/\(τ.bo id).isSome=true↔(τ.bo id).isSome=true;refine⟨λh=>h.2,λh=>⟨(r.hv id).2 ?_,h⟩⟩;obtain⟨b,jS⟩:=gn.1 h;obtain⟨b',h1,_⟩:=hb.get jS;rw[h1];rfl
 .exact bS.1 jZ _ (K7 k)
def PV.vT(id:Nat)(e:E)(p:PV):PV:=match p with
 | .own i=>if Nat.beq i id then .e e else .own i
 |p=>if p.pQ.any (Nat.beq id)then .e .any else p
def PS.vT(σ:PS)(id:Nat)(e:E):PS:={ σ with t:=σ.t.map λx=>(x.1,x.2.vT id e),b:=σ.b.filter λx=>!Nat.beq x.1 id }
def Bx.as:Bx->Option E
 | .row nl _ n sz el=>some (.sl nl n sz el)
 | .iH nl _ _ n sz len el none=>some (.sl true n 1 λk _=>.sl nl (len k) sz (el k))
 |_=>none
def PS.le.freeze{σ:PS}(id:Nat){b:Bx}{e:E}(jS:σ.bo id=some b)(he:b.as=some e):PS.le σ (σ.vT id e):=λw0 B a w L hB r=>by
 let L':Lk:=⟨λi=>L.nR i/\i≠id,λi x=>L.own i x/\i≠id,L.val,L.jm⟩
 have iE:se L w L' w:=⟨bp _,λx _ ⟨i,h,_⟩=>⟨i,h⟩,λ_ _ _=>rfl⟩
 have uZ:∀ i,(σ.vT id e).bo i=if i=id then none else σ.bo i:=by
  intro i;unfold PS.bo PS.vT;by_cases h:i=id
  .subst h;simp only[bI];exact R6 _ _
  .rw [bh h];exact DL _ _ _ (λe=>h e.symm)
 have mS:∀ x,L.own id x->¬jv B L' x:=by
  rintro x hx (h|⟨i,h1,h2⟩)
  .have:=hB x h;have:=(r.hw id x hx).1;omega
  .exact h2 (r.hi i id x h1 hx)
 have own:∀ (v:Value) (T:TypeId) (n sz:Nat) (f:Nat->Nat->Value) (nl:Bool) (el:Nat->Nat->E),pF w v T n sz f nl->(∀ x,v.ownBlock=some x->L.own id x) ->
  (∀ i j,i<n->j<sz->iz (jv B L) (j9 L) w (el i j) (f i j)/\(el i j).nr 2=true)->iz (jv B L') (j9 L') w (.sl nl n sz el) v:=by
  intro v T n sz f nl el h1 h2 h3;rcases h1 with⟨rfl,rfl⟩|⟨b,c,cur,rfl,hg,o0,nE,ny,lk,jZ⟩
  .exact .sl nl 0 sz el none 0 f (bp _) aF (λ_=>rfl) (λi j hi=>absurd hi (bC i)) (λi j hi=>absurd hi (bC i)) (λi j hi=>absurd hi (bC i)) (λi j hi=>absurd hi (bC i))
  .have qB:=h2 b rfl;refine .sl nl n sz el _ c f o0 (by unfold maxLen at nE;omega) (λh=>by cases h) (λi j hi hj=>⟨(lk i j hi hj).2,λhn=>jZ hn _ (dI (lk i j hi hj).1)⟩) (λi j hi hj=>(h3 i j hi hj).2)
    (λi j hi hj=>⟨b,0,rfl,mS b qB,(r.hw id b qB).2,?_⟩) (λi j hi hj=>iE.kZ (h3 i j hi hj).1)
   rw[bU];simp only[World.cell?,hg];simpa using(lk i j hi hj).1
 have hold:∀ v,v=L.val id->iz (jv B L') (j9 L') w e v:=by
  rintro v rfl;have Qm:=r.hb id b jS;cases b with
  |cells T l=>cases he
  |row nl T n sz el=>
   cases he;obtain⟨f,h1,h2,h3⟩:=Qm;exact own _ T n sz f nl el h1 (λx hx=>(h2 x).2 hx) h3
  |iH nl T1 T0 n sz len el pend=>
   cases pend with
   |some k=>cases he
   |none=>
    cases he;obtain⟨b,c,cur,f,h1,h2,h3,h4,h5,h6,h7,h8,h9,sU,uf⟩:=Qm;have qB:L.own id b:=(h9 b).2 (.inl rfl);rw[h1];refine .sl true n 1 _ _ c (λk _=>L.jm id k) h3 (by unfold maxLen at h4;omega) (λh=>by cases h) (λk j hk hj=>?_) (λk j hk hj=>rfl)
     (λk j hk hj=>⟨b,0,rfl,mS b qB,(r.hw id b qB).2,?_⟩) (λk j hk hj=>own _ T0 (len k) sz (f k) nl (el k) (h8 k hk).1 (λx hx=>(h9 x).2 (.inr ⟨k,hk,hx⟩)) (h8 k hk).2)
    .obtain ⟨q1,q2⟩:=h7 _ (dI (h6 k hk aJ));exact⟨q1,λ_=>q2⟩
    .rw [bU,bW];obtain rfl:j=0:= aD ;simp only[World.cell?,h2];simpa using h6 k hk aJ 
 refine⟨L',r.hd,r.hs,λt=>?_,λi b' h=>?_,λi=>?_,λi x h=>⟨r.hn i x h.1,h.2⟩,λi x h=>r.hw i x h.1,λi i' x h k=>r.hi i i' x h.1 k.1,r.he,λh i b' k=>?_⟩
 .have hg:(σ.vT id e).get t=(σ.get t).vT id e:=by
   unfold PS.get PS.vT;rw[R7];cases look σ.t t<;>rfl
  rw[hg];have k:=r.ht t;generalize σ.get t=p at k;have move:∀ (p:PV) (v:Value),nx (jv B L) (j9 L) L w p v->(p.pQ.any (Nat.beq id))=false->nx (jv B L') (j9 L') L' w p v:=by
   intro p v k hp;refine nx.move iE k λi hi uk=>⟨⟨uk,?_⟩,rfl,λ_=>rfl⟩
   rintro rfl;have:=c9.1 hp i hi;simp at this
  have gen:∀ (p:PV) (v:Value),nx (jv B L) (j9 L) L w p v->nx (jv B L') (j9 L') L' w (if p.pQ.any (Nat.beq id)then .e .any else p) v:=by
   intro p v k;cases hp:p.pQ.any (Nat.beq id)with
   |true=>exact .any _
   |false=>exact move p v k hp
  cases p with
  |own i=>
   simp only[PV.vT];by_cases hi:i=id
   .subst hi;rw[dE,bj rfl];exact hold _ k.2
   .rw [dF hi,bh aF];exact⟨⟨k.1,hi⟩,k.2⟩
  |_=>exact gen _ _ k
 .rw [uZ]at h;split at h
  .cases h
  .rename_i hi;exact(r.hb i b' h).later iE rfl (λx=>⟨λq=>q.1,λq=>⟨q,hi⟩⟩) (λ_=>rfl) λ_ _=>rfl
 .rw [uZ];show L.nR i/\i≠id↔_;by_cases hi:i=id
  .subst hi;simp
  .simp only[hi,cR,eF,and_true,bF];exact r.hv i
 .rw [uZ]at k;split at k
  .cases k
  .exact r.hl h i b' k
def PS.AW(σ:PS)(t id:Nat)(b:Bx):PS:={ σ with t:=(t,.own id)::σ.t.filter (λx=>!Nat.beq x.1 t),b:=(id,b)::σ.b }
def PS.le.W1{σ:PS}(t id:Nat){nl:Bool}{T:TypeId}{sz:Nat}{el:Nat->Nat->E}(jS:σ.bo id=none)(hg:σ.get t = .e (.v (.slice none 0 0)))(jZ:σ.nl=true->nl=true):PS.le σ (σ.AW t id (.row nl T 0 sz el)):=λw0 B a w L hB r=>by
 have uj:¬L.nR id:=λh=>by have:=(r.hv id).1 h;rw[jS]at this;cases this
 let L':Lk:=⟨λi=>L.nR i\/i=id,L.own,λi=>if i=id then .slice none 0 0 else L.val i,L.jm⟩
 have iE:se L w L' w:=⟨bp _,λx _ h=>h,λ_ _ _=>rfl⟩
 have uZ:∀ i,(σ.AW t id (.row nl T 0 sz el)).bo i=if i=id then some (.row nl T 0 sz el)else σ.bo i:=by
  intro i;unfold PS.bo PS.AW;rw[sD];by_cases h:id=i
  .rw [bj h,bj h.symm]
  .rw [bh h,bh (λe=>h e.symm)]
 have hv:a.tmps.getD t undef = .slice none 0 0:=by
  have:=r.ht t;rw[hg]at this;exact iz.kE this
 refine⟨L',r.hd,r.hs,λs=>?_,λi b' h=>?_,λi=>?_,λi x h=>.inl (r.hn i x h),r.hw,r.hi,r.he,λh i b' k=>?_⟩
 .have hgs:(σ.AW t id (.row nl T 0 sz el)).get s=if t=s then .own id else σ.get s:=by
   unfold PS.get PS.AW;simp only[sD];by_cases h:t=s
   .rw [bj h,bj h];rfl
   .rw [bh h,bh h,DL _ _ _ h]
  rw[hgs];by_cases h:t=s
  .subst h;rw[bj rfl,hv];exact⟨.inr rfl,(bj rfl).symm⟩
  .rw [bh h];refine nx.move iE (r.ht s) λi _ uk=>⟨.inl uk,bh (λ(q:i=id)=>uj (q▸uk)),λ_=>rfl⟩
 .rw [uZ]at h;split at h
  .rename_i hi;subst hi;cases h;refine⟨λ_ _=>undef,.inl ⟨bj rfl,rfl⟩,λx=>⟨λq=>absurd (r.hn _ _ q) uj,λq=>?_⟩,λi j hi=>absurd hi (bC i)⟩;have e1:L'.val i = .slice none 0 0:=bj rfl;rw[e1]at q;cases q
  .rename_i hi;exact(r.hb i b' h).later iE (bh hi) (λ_=>Iff.rfl) (λ_=>rfl) λ_ _=>rfl
 .rw [uZ];show L.nR i\/i=id↔_;by_cases hi:i=id
  .subst hi;simp
  .simp only[hi,fO,bF];exact r.hv i
 .rw [uZ]at k;split at k
  .cases k;exact jZ h
  .exact r.hl h i b' k
end Go.Proofs.YtkjkcjhacddojaaGreatDoor.Pu
namespace Go.Proofs.YtkjkcjhacddojaaGreatDoor.Fp
def mD(x i:Nat)(b o:List Nat):Nat->List Nat×Nat
 | 0=>(o,0)
 |k+1=>
  let r:=mD x i b o k
  let z:=x*b.getD k 0+r.1.getD (i+k) 0+r.2
  (r.1.set (i+k) (z%4294967296),z/4294967296)
def ln(a b:List Nat):Nat->List Nat
 | 0=>List.replicate (a.length+b.length) 0
 |i+1=>
  let r:=mD (a.getD i 0) i b (ln a b i) b.length
  r.1.set (i+b.length) (r.2%4294967296)
def SD{x y:Nat}(hx:x<4294967296)(hy:y<4294967296):x*y<=18446744065119617025:=by
 have:=di (aD:x<=4294967295) (aD:y<=4294967295);omega
def wK{L:List Nat}{k x:Nat}(hk:k<L.length):val (L.set k x)+4294967296^k*L.getD k 0=val L+4294967296^k*x:=by
 have:=ME (x:=x) hk;rwa[bn,bt hk]
def ue{L:List Nat}{k j x:Nat}(h:k≠j):(L.set k x).getD j 0=L.getD j 0:=by
 simp only[bn,gA h]
def JM{L:List Nat}{k x:Nat}(h:k<L.length):(L.set k x).getD k 0=x:=by
 simp[bn,h]
structure WQ(x i:Nat)(b o:List Nat)(k:Nat)(r:List Nat×Nat):Prop where
 ok:iw r.1
 len:r.1.length=o.length
 lt:r.2<4294967296
 eq:val r.1+4294967296^(i+k)*r.2=val o+4294967296^i*(x*val (b.take k))
 pk:∀ j,i+k<=j->r.1.getD j 0=o.getD j 0
def DS{x i:Nat}{b o:List Nat}(hx:x<4294967296)(hb:iw b)(ho:iw o)(hl:i+b.length<=o.length):∀ k,k<=b.length->WQ x i b o k (mD x i b o k)
 | 0,_=>⟨ho,rfl,aj7 _,by simp[mD,val],λ_ _=>rfl⟩
 |k+1,hk=>by
  obtain⟨h1,h2,h3,h4,h5⟩:=DS hx hb ho hl k aD;have hy:=hb.getD k;have hw:=h1.getD (i+k);have hm:=SD hx hy;have hv:=tI b k;simp only[mD];generalize mD x i b o k=r at *
  generalize hz:x*b.getD k 0+r.1.getD (i+k) 0+r.2=z;have tg:=wK (L:=r.1) (k:=i+k) (x:=z%4294967296) aD;refine⟨h1.set _ (bA _ aF),by simpa using h2,by show z/4294967296<_;omega,?_,λj hj=>?_⟩
  .have e1:z=z%4294967296+4294967296*(z/4294967296):=(dC z _).symm;show val (r.1.set (i+k) (z%4294967296))+4294967296^(i+(k+1))*(z/4294967296)=_;rw[hv,bH x,bH (4294967296^i),<-cP (val o),<-h4];have e2:4294967296^(i+(k+1))*(z/4294967296)=4294967296^(i+k)*(4294967296*(z/4294967296)):=by rw[(aD:i+(k+1)=(i+k)+1),bE,bw]
   have e3:4294967296^i*(x*(4294967296^k*b.getD k 0))=4294967296^(i+k)*(x*b.getD k 0):=by rw[bq];simp only[bw,cW]
   rw[e2,e3];have e4:4294967296^(i+k)*z=4294967296^(i+k)*(x*b.getD k 0)+4294967296^(i+k)*r.1.getD (i+k) 0+4294967296^(i+k)*r.2:=by rw[<-hz,bH,bH]
   have e5:4294967296^(i+k)*z=4294967296^(i+k)*(z%4294967296)+4294967296^(i+k)*(4294967296*(z/4294967296)):=by rw[<-bH,<-e1]
   omega
  .show (r.1.set (i+k) _).getD j 0=_;rw[ue aD,h5 j aD]
structure WR(a b:List Nat)(i:Nat)(o:List Nat):Prop where
 ok:iw o
 len:o.length=a.length+b.length
 eq:val o=val (a.take i)*val b
 zero:∀ j,i+b.length<=j->o.getD j 0=0
def DT{a b:List Nat}(ha:iw a)(hb:iw b):∀ i,i<=a.length->WR a b i (ln a b i)
 | 0,_=>⟨iw.AH _,by simp[ln],by simp[ln,xP,val],λj _=>by
  by_cases h:j<a.length+b.length<;>simp[ln,bn,fM,h]⟩
 |i+1,hi=>by
  obtain⟨h1,h2,h3,h4⟩:=DT ha hb i aD;obtain⟨q1,q2,q3,q4,q5⟩:=DS (ha.getD i) hb h1 (i:=i) aD b.length (bp _);have hv:=tI a i;simp only[ln];generalize mD (a.getD i 0) i b (ln a b i) b.length=r at *
  have tg:=wK (L:=r.1) (k:=i+b.length) (x:=r.2%4294967296) aD;rw[q5 _ (bp _),h4 _ (bp _),cH,bK,bJ q3,q4,fk,h3]at tg;refine⟨q1.set _ (bA _ aF),aR,?_,λj hj=>?_⟩
  .rw [bJ q3,tg,hv,bT,bw]
  .rw [ue aD,q5 _ aD,h4 _ aD]
def aiZ{a b:List Nat}(ha:iw a)(hb:iw b):val (ln a b a.length)=val a*val b:=by
 have:=(DT ha hb a.length (bp _)).eq;rwa[fk]at this
end Go.Proofs.YtkjkcjhacddojaaGreatDoor.Fp
namespace Go.Proofs.YtkjkcjhacddojaaGreatDoor
open Go.RowKit Fp Pu
abbrev iW(L:List Nat):Nat->Nat->E:=λi _=>.v (.int .u32 (L.getD i 0:Int))
def q9(n:Nat):IntKind.u32.wrap (n:Int)=((n%4294967296:Nat):Int):=by rw[IntKind.wrap_u32];omega
def abZ(n:Nat)(h:n<9223372036854775808):IntKind.i64.wrap (n:Int)=n:=by rw[IntKind.wrap_i64];omega
def xJ(n:Nat):(n:Int)/2^32=((n/4294967296:Nat):Int):= aD 
def xK(n k:Nat):(n:Int)/2^k=((n/2^k:Nat):Int):=by rw[Int.natCast_ediv,Int.natCast_pow];rfl
def xL{L:List Nat}{n:Nat}(h:n=L.length):E.le (.sl false n 1 (iW L)) (gO L):=by subst h;exact .refl _
def Eo{T n n':Nat}{L:List Nat}(hn:n=n')(h:∀ i,L.getD i 0=0):Bx.le (.row false T n 1 λ_ j=>[.v (.int .u32 0)].getD j .any) (.row false T n' 1 (iW L)):=
 .row hn λi j _ hj=>by
  obtain rfl:j=0:= aD ;refine⟨.iD ?_,rfl⟩;show E.v (.int .u32 0)=E.v (.int .u32 (L.getD i 0:Int));rw[h i];rfl
def Mi{T n n' p:Nat}{L:List Nat}{z:Nat}(hn:n=n')(hp:p<L.length):Bx.le (.row false T n 1 λi' j'=>if i'=p/\0<=j'/\j'<0+1 then[.v (.int .u32 (z:Int))].getD (j'-0) .any else(iW L) i' j') (.row false T n' 1 (iW (L.set p z))):=
 .row hn λi j _ hj=>by
  obtain rfl:j=0:= aD ;refine⟨.iD ?_,rfl⟩;by_cases h:i=p
  .subst h;rw[bj ⟨rfl,aD,aD⟩];show E.v (.int .u32 (z:Int))=E.v (.int .u32 (((L.set i z).getD i 0:Nat):Int));rw[Fp.JM hp]
  .rw [bh (λq=>h q.1)];show E.v (.int .u32 (L.getD i 0:Int))=E.v (.int .u32 (((L.set p z).getD i 0:Nat):Int));rw[Fp.ue (λq=>h q.symm)]
def Vc{k l:IntKind}{a b c d:Int}(h:a=b)(h':c=d):Ending.returned (.tuple #[.int k a,.int l c]) = .returned (.tuple #[.int k b,.int l d]):=by rw[h,h']
def CE(x y c:Nat)(w:World)(hx:x<4294967296)(hy:y<4294967296)(hc:c<=1):
 Calls prog 379 #[.int .u32 x,.int .u32 y,.int .u32 c] w λe w'=>e = .returned (.tuple #[.int .u32 (((x+y+c)%4294967296:Nat):Int),.int .u32 (((x+y+c)/4294967296:Nat):Int)])/\w=w':=by
 go_enter func379,ntmps379;go_wp2;go_ret2;refine⟨?_,rfl⟩;exact Vc aD aD 
def Ez(a b:Nat)(ha:a<4294967296)(hb:b<4294967296):bits .or .u32 (a:Int) (b:Int)=((a |||b:Nat):Int):=by
 have h2:a |||b<2^32:=aj4 ha hb
 show IntKind.u32.wrap ((BitVec.ofInt 32 (a:Int) |||BitVec.ofInt 32 (b:Int)).toNat:Int)=_;rw[BitVec.toNat_or,fl,fl];rw[show((a:Int)%((2^32:Nat):Int)).toNat=a by omega,show((b:Int)%((2^32:Nat):Int)).toNat=b by omega];rw[IntKind.wrap_u32];omega
def Wq(a b:Nat)(ha:a<4294967296)(hb:b<4294967296):bits .and .u32 (a:Int) (b:Int)=((a &&& b:Nat):Int):=by
 have h2:a &&& b<2^32:=fi a hb;show IntKind.u32.wrap ((BitVec.ofInt 32 (a:Int) &&& BitVec.ofInt 32 (b:Int)).toNat:Int)=_;rw[BitVec.toNat_and,fl,fl];rw[show((a:Int)%((2^32:Nat):Int)).toNat=a by omega,show((b:Int)%((2^32:Nat):Int)).toNat=b by omega];rw[IntKind.wrap_u32];omega
def MB(a b:Nat)(ha:a<4294967296)(hb:b<4294967296):bits .xor .u32 (a:Int) (b:Int)=((a ^^^ b:Nat):Int):=by
 have h2:a ^^^ b<2^32:=eI ha hb;show IntKind.u32.wrap ((BitVec.ofInt 32 (a:Int) ^^^ BitVec.ofInt 32 (b:Int)).toNat:Int)=_;rw[BitVec.toNat_xor,fl,fl];rw[show((a:Int)%((2^32:Nat):Int)).toNat=a by omega,show((b:Int)%((2^32:Nat):Int)).toNat=b by omega];rw[IntKind.wrap_u32];omega
def Ie(n:Nat)(h:n<4294967296):n/2147483648=(n.testBit 31).toNat:=by
 rw[Nat.testBit_eq_decide_div_mod_eq,show(2:Nat)^31=2147483648 from rfl];have h2:n/2147483648<2:= aD ;generalize n/2147483648=q at *
 have:q=0\/q=1:= aD ;rcases this with rfl|rfl<;>rfl
def ah0(x y c d:Nat)(hx:x<4294967296)(hy:y<4294967296)(hc:c<=1)(hd:d=(x+(4294967296-y)+(4294967296-c))%4294967296):
 (((4294967295 ^^^ x) &&& y) ||| ((4294967295 ^^^ (x ^^^ y)) &&& d))/2147483648=if x<y+c then 1 else 0:=by
 have zE:d<4294967296:= aD ;have h1:4294967295 ^^^ x<2^32:=eI aF hx;have h2:x ^^^ y<2^32:=eI hx hy;have h3:4294967295 ^^^ (x ^^^ y)<2^32:=eI aF h2;have h4:(4294967295 ^^^ x) &&& y<2^32:=fi _ hy;have h5:(4294967295 ^^^ (x ^^^ y)) &&& d<2^32:=fi _ zE;rw[Ie _ (aj4 h4 h5)];have tx:=Ie x hx;have ty:=Ie y hy;have td:=Ie d zE;rw[Nat.testBit_or,Nat.testBit_and,Nat.testBit_and,aj8,aj8,aj8,show(4294967295:Nat).testBit 31=true by decide];clear h1 h2 h3 h4 h5;generalize x.testBit 31=p at *
 generalize y.testBit 31=q at *
 generalize d.testBit 31=r at *
 cases p<;>cases q<;>cases r<;>simp at tx ty td ⊢ <;> omega
def zo(x y c:Nat):Nat:=if x<y+c then 1 else 0
def vR(x y c:Nat):Nat:=(x+(4294967296-y)+(4294967296-c))%4294967296
def CN(x y c:Nat)(hx:x<4294967296)(hy:y<4294967296)(hc:c<=1):vR x y c+y+c=x+4294967296*zo x y c/\zo x y c<=1/\vR x y c<4294967296:=by
 unfold vR zo;split<;>omega
def VZ(x y c:Nat)(w:World)(hx:x<4294967296)(hy:y<4294967296)(hc:c<=1):
 Calls prog 380 #[.int .u32 x,.int .u32 y,.int .u32 c] w λe w'=>e = .returned (.tuple #[.int .u32 (vR x y c:Nat),.int .u32 (zo x y c:Nat)])/\w=w':=by
 go_enter func380,ntmps380;go_wp2;go_ret2;refine⟨?_,rfl⟩;have hd:((x:Int)-y-c)%4294967296=(vR x y c:Int):=by unfold vR;omega
 have hb:=ah0 x y c (vR x y c) hx hy hc rfl;have hl:=(CN x y c hx hy hc).2.2;have em:IntKind.u32.max=((4294967295:Nat):Int):=rfl;refine Vc hd ?_;rw[hd,em,MB _ _ aF hx,MB _ _ hx hy];have h1:4294967295 ^^^ x<2^32:=eI aF hx;have h2:x ^^^ y<2^32:=eI hx hy;have h3:4294967295 ^^^ (x ^^^ y)<2^32:=eI aF h2;rw[MB _ _ aF h2,Wq _ _ h1 hy,Wq _ _ h3 hl];have h4:(4294967295 ^^^ x) &&& y<2^32:=fi _ hy;have h5:(4294967295 ^^^ (x ^^^ y)) &&& vR x y c<2^32:=fi _ hl;rw[Ez _ _ h4 h5];unfold zo;rw[<-hb];omega
def M0{O:List Nat}{k c x y P Q P' Q':Nat}(ho:O[k]? = some 0)(h:val O+4294967296^k*c=P+Q)
 (hP:P'=P+4294967296^k*x) (hQ:Q'=Q+4294967296^k*y):
 val (O.set k ((x+y+c)%4294967296))+4294967296^(k+1)*((x+y+c)/4294967296)=P'+Q':=by
 have h1:=Le (a:=1) (b:=x+y) (c:=c) ho;rw[bX,bK]at h1;rw[h1,h,hP,hQ,bH];omega
def V2{O:List Nat}{k c x y d c' P Q P' Q':Nat}(ho:O[k]? = some 0)(h:val O+Q=P+4294967296^k*c)
 (hP:P'=P+4294967296^k*x) (hQ:Q'=Q+4294967296^k*y) (hd:d+y+c=x+4294967296*c'):
 val (O.set k d)+Q'=P'+4294967296^(k+1)*c':=by
 obtain⟨hk,h0⟩:=cg.1 ho;have h1:=ME (x:=d) hk;rw[h0,cH,bK]at h1;have e:=congrArg (4294967296^k * ·) hd;simp only[bH,<-bw]at e;rw[bE,h1,hP,hQ];omega
def sP(O:List Nat)(k:Nat):Prop:=∀ j,k<=j->j<O.length->O[j]? = some 0
def sP.at{O:List Nat}{k:Nat}(h:sP O k)(hk:k<O.length):O[k]? = some 0:=h k (bp _) hk
def sP.set{O:List Nat}{k:Nat}(h:sP O k)(v:Nat):sP (O.set k v) (k+1):=λj h1 h2=>by
 rw[gA aD];exact h j aD (by simpa using h2)
def sP.MM(n:Nat):sP (List.replicate n 0) 0:=λj _ h=>by
 rw[fM];rw[bj (by simpa using h)]
def IH(w:World)(v n:Nat)(e:Ending)(w':World):Prop:=∃ T,val T=v/\iw T/\T.length=n/\rN w T e w'
def MQ(w:World)(v n:Nat)(e:Ending)(w':World):Prop:=∃ T,val T=v/\iw T/\T.length<=n/\rN w T e w'
def adB(A B:Option Addr)(c d:Nat)(L M:List Nat)(w:World)(hs:Sl w A c L)(hr:Sl w B d M)(h1:L.length<=3000)(_h2:M.length<=3000)(hc:M.length<=L.length):
 Calls prog 360 #[.slice A L.length c,.slice B M.length d] w (IH w (val L+val M) (L.length+1)):=by
 obtain⟨l,hl⟩:∃ l,l=L.length:=⟨_,rfl⟩
 obtain⟨m,hm⟩:∃ m,m=M.length:=⟨_,rfl⟩
 rw[<-hl,<-hm]at hc;rw[<-hl]at h1;rw[<-hm]at _h2;have HL:=akw hl;have HM:=akw hm;rw[<-hl,<-hm];clear hl hm;have d0:decide ((l:Int)<m)=false:=bl aD;have d1:decide (l<m)=false:=bl aD;have oz:=BK (l+1) aD;rw[show((l+1:Nat):Int)=l+1 by omega]at oz;have ug:=akw (Rw.wi w (l+1));go_enter func360,ntmps360;go_wp2;go_loopw [6,7,8,9,23] (λcy _ _ _ i wr=>∃ (k q:Nat) (O:List Nat),k<=l/\i = .int .i64 k/\cy = .int .u32 q/\q<=1/\O.length=l+1/\iw O/\sP O k/\val O+4294967296^k*q=val (L.take k)+val (M.take k)/\Rw wr w.heap.size O/\iu w wr) (λ_ _ _ _ i _=>l-(intOf i).toNat)
 case atStart=>
  exact⟨0,0,List.replicate (l+1) 0,b6 _,rfl,rfl,aF,aJ,iw.AH _,sP.MM _,by simp[xP],ug.out,iu.alloc _ _⟩
 case round=>
  obtain⟨k,q,O,hk,rfl,rfl,hq,hO,kf,hz,kR,hR,hb⟩:=hrel;have HV:=akw kR;have HO:=akw hO;clear kR hO;have HZ:=akw hz;clear hz;by_cases iE:k<l
  .have su:k<L.length:=by have:=HL.out;omega
   obtain⟨ab,ao,e1,_,c1⟩:=(hs.below hb).k0 su;have mi:L[k]<4294967296:=hs.ok.get su;have ho:=HZ.out.at (by have:=HO.out;omega)
   have c4:=hR.frozen k;have FZ:=hR.cell ho;have HT:=akw (wL L k su);have HY:=akw (tI M k);have oK:M.getD k 0<4294967296:=hr.ok.getD k;have HYc:=akw (λ(h:k<M.length)=>(hr.below hb).k0 h);have HYg:=akw (λ(h:k<M.length)=>yf h);have HYn:=akw (λ(h:¬k<M.length)=>Bd h);have HX:=akw (rfl:L[k]=L[k]);obtain⟨a,ha⟩:∃ a,a=L[k]:=⟨_,rfl⟩
   rw[<-ha]at c1 mi HT;clear ha HX su;have HS:=akw (M0 ho HV.out HT.out HY.out);have HN:=akw (λv=>HZ.out.set v);have HOK:=akw (λv=>kf.Hv k v);have HR2:=akw (λv:Nat=>hR.set k v);have HE2:=akw (λv:Value=>hb.setCell (p:=⟨w.heap.size,k,none⟩) (bp _) v);clear ho hR hb kf;subst e1;by_cases Ri:k<m
   .have vf:k<M.length:=by have:=HM.out;omega
    obtain⟨bb,bo,e2,_,c2⟩:=HYc.out vf;subst e2;rw[<-HYg.out vf]at c2;generalize M.getD k 0=b at *
    clear HYc HYg HYn vf;have HA:=akw (λw=>CE a b q w mi oK hq);go_wp2_with fail;refine(HA.out _).mono ?_;rintro e w1 ⟨rfl,rfl⟩;go_wp2;go_roundw
    case rel=>
     exact⟨k+1,(a+b+q)/4294967296,O.set k ((a+b+q)%4294967296),aD,by go_num,rfl,aD,by rw[cI];exact HO.out,HOK.out _,HN.out _,HS.out,HR2.out _,HE2.out _⟩
    case measure=>simp[intOf];omega
   .rw [HYn.out (by have:=HM.out;omega)]at HS;clear HYc HYg HYn oK HY;have HA:=akw (λw=>CE a 0 q w mi aF hq);go_wp2_with fail;refine(HA.out _).mono ?_;rintro e w1 ⟨rfl,rfl⟩;go_wp2;go_roundw
    case rel=>
     exact⟨k+1,(a+0+q)/4294967296,O.set k ((a+0+q)%4294967296),aD,by go_num,rfl,aD,by rw[cI];exact HO.out,HOK.out _,HN.out _,HS.out,HR2.out _,HE2.out _⟩
    case measure=>simp[intOf];omega
  .obtain rfl:k=l:= aD ;have ho:=HZ.out.at (by have:=HO.out;omega)
   have c4:=hR.frozen k;have FZ:=hR.cell ho;have HF:=akw (show val (O.set k q)=val L+val M by
    have h:=I1 (c:=q) ho;rw[bU,bJ aD,ca aD,cH,bK,HV.out,show L.take k=L from cG (by rw[HL.out];exact bp _),show M.take k=M from cG (by rw[<-HM.out];omega)]at h;omega)
   have HLn:=akw (show(O.set k q).length=k+1 by rw[cI];exact HO.out);have HOK:Hid (iw (O.set k q)):=kf.set k aD;have HR2:=akw (hR.set k q);have HE2:=akw (λv:Value=>hb.setCell (p:=⟨w.heap.size,k,none⟩) (bp _) v);clear ho hR hb kf;go_wp2;go_ret;have sA:=HR2.out.sl HOK.out (by rw[HLn.out];omega);rw[HLn.out]at sA;exact⟨_,HF.out,HOK.out,HLn.out,_,_,(by rw[HLn.out];rfl),sA,HE2.out _⟩
def adC(A B:Option Addr)(c d:Nat)(L M:List Nat)(w:World)(hs:Sl w A c L)(hr:Sl w B d M)(h1:L.length<=3000)(h2:M.length<=3000)(hc:L.length<M.length):
 Calls prog 360 #[.slice A L.length c,.slice B M.length d] w (IH w (val L+val M) (M.length+1)):=by
 obtain⟨l,hl⟩:∃ l,l=L.length:=⟨_,rfl⟩
 obtain⟨m,hm⟩:∃ m,m=M.length:=⟨_,rfl⟩
 rw[<-hl,<-hm]at hc;rw[<-hl]at h1;rw[<-hm]at h2;have HL:=akw hl;have HM:=akw hm;rw[<-hl,<-hm];clear hl hm;have d0:decide ((l:Int)<m)=true:=bk aD;have d1:decide (l<m)=true:=bk aD;have oz:=BK (m+1) aD;rw[show((m+1:Nat):Int)=m+1 by omega]at oz;have ug:=akw (Rw.wi w (m+1));go_enter func360,ntmps360;go_wp2;go_loopw [6,7,8,9,23] (λcy _ _ _ i wr=>∃ (k q:Nat) (O:List Nat),k<=m/\i = .int .i64 k/\cy = .int .u32 q/\q<=1/\O.length=m+1/\iw O/\sP O k/\val O+4294967296^k*q=val (M.take k)+val (L.take k)/\Rw wr w.heap.size O/\iu w wr) (λ_ _ _ _ i _=>m-(intOf i).toNat)
 case atStart=>
  exact⟨0,0,List.replicate (m+1) 0,b6 _,rfl,rfl,aF,aJ,iw.AH _,sP.MM _,by simp[xP],ug.out,iu.alloc _ _⟩
 case round=>
  obtain⟨k,q,O,hk,rfl,rfl,hq,hO,kf,hz,kR,hR,hb⟩:=hrel;have HV:=akw kR;have HO:=akw hO;clear kR hO;have HZ:=akw hz;clear hz;by_cases iE:k<m
  .have su:k<M.length:=by have:=HM.out;omega
   obtain⟨ab,ao,e1,_,c1⟩:=(hr.below hb).k0 su;have mi:M[k]<4294967296:=hr.ok.get su;have ho:=HZ.out.at (by have:=HO.out;omega)
   have c4:=hR.frozen k;have FZ:=hR.cell ho;have HT:=akw (wL M k su);have HY:=akw (tI L k);have oK:L.getD k 0<4294967296:=hs.ok.getD k;have HYc:=akw (λ(h:k<L.length)=>(hs.below hb).k0 h);have HYg:=akw (λ(h:k<L.length)=>yf h);have HYn:=akw (λ(h:¬k<L.length)=>Bd h);have HX:=akw (rfl:M[k]=M[k]);obtain⟨a,ha⟩:∃ a,a=M[k]:=⟨_,rfl⟩
   rw[<-ha]at c1 mi HT;clear ha HX su;have HS:=akw (M0 ho HV.out HT.out HY.out);have HN:=akw (λv=>HZ.out.set v);have HOK:=akw (λv=>kf.Hv k v);have HR2:=akw (λv:Nat=>hR.set k v);have HE2:=akw (λv:Value=>hb.setCell (p:=⟨w.heap.size,k,none⟩) (bp _) v);clear ho hR hb kf;subst e1;by_cases Ri:k<l
   .have vf:k<L.length:=by have:=HL.out;omega
    obtain⟨bb,bo,e2,_,c2⟩:=HYc.out vf;subst e2;rw[<-HYg.out vf]at c2;generalize L.getD k 0=b at *
    clear HYc HYg HYn vf;have HA:=akw (λw=>CE a b q w mi oK hq);go_wp2_with fail;refine(HA.out _).mono ?_;rintro e w1 ⟨rfl,rfl⟩;go_wp2;go_roundw
    case rel=>
     exact⟨k+1,(a+b+q)/4294967296,O.set k ((a+b+q)%4294967296),aD,by go_num,rfl,aD,by rw[cI];exact HO.out,HOK.out _,HN.out _,HS.out,HR2.out _,HE2.out _⟩
    case measure=>simp[intOf];omega
   .rw [HYn.out (by have:=HL.out;omega)]at HS;clear HYc HYg HYn oK HY;have HA:=akw (λw=>CE a 0 q w mi aF hq);go_wp2_with fail;refine(HA.out _).mono ?_;rintro e w1 ⟨rfl,rfl⟩;go_wp2;go_roundw
    case rel=>
     exact⟨k+1,(a+0+q)/4294967296,O.set k ((a+0+q)%4294967296),aD,by go_num,rfl,aD,by rw[cI];exact HO.out,HOK.out _,HN.out _,HS.out,HR2.out _,HE2.out _⟩
    case measure=>simp[intOf];omega
  .obtain rfl:k=m:= aD ;have ho:=HZ.out.at (by have:=HO.out;omega)
   have c4:=hR.frozen k;have FZ:=hR.cell ho;have HF:=akw (show val (O.set k q)=val L+val M by
    have h:=I1 (c:=q) ho;rw[bU,bJ aD,ca aD,cH,bK,HV.out,show M.take k=M from cG (by rw[HM.out];exact bp _),show L.take k=L from cG (by rw[<-HL.out];omega)]at h;omega)
   have HLn:=akw (show(O.set k q).length=k+1 by rw[cI];exact HO.out);have HOK:Hid (iw (O.set k q)):=kf.set k aD;have HR2:=akw (hR.set k q);have HE2:=akw (λv:Value=>hb.setCell (p:=⟨w.heap.size,k,none⟩) (bp _) v);clear ho hR hb kf;go_wp2;go_ret;have sA:=HR2.out.sl HOK.out (by rw[HLn.out];omega);rw[HLn.out]at sA;exact⟨_,HF.out,HOK.out,HLn.out,_,_,(by rw[HLn.out];rfl),sA,HE2.out _⟩
def adA(A B:Option Addr)(c d:Nat)(L M:List Nat)(w:World)(hs:Sl w A c L)(hr:Sl w B d M)(h1:L.length<=3000)(h2:M.length<=3000):
 Calls prog 360 #[.slice A L.length c,.slice B M.length d] w (IH w (val L+val M) (max L.length M.length+1)):=by
 by_cases hc:M.length<=L.length
 .rw [Nat.max_eq_left hc];exact adB A B c d L M w hs hr h1 h2 hc
 .rw [Nat.max_eq_right aD];exact adC A B c d L M w hs hr h1 h2 aD 
def adz(A B:Option Addr)(c d:Nat)(L M:List Nat)(w:World)(hs:Sl w A c L)(hr:Sl w B d M)(h1:L.length<=3000)(h2:M.length<=3000):
 Calls prog 360 #[.slice A L.length c,.slice B M.length d] w (MQ w (val L+val M) (max L.length M.length+1)):=
 (adA A B c d L M w hs hr h1 h2).mono λ_ _ ⟨T,a,b,c,d⟩=>⟨T,a,b,gB c,d⟩
def adE(A B:Option Addr)(c d:Nat)(L M:List Nat)(w:World)(uq:Sl w A c L)(tc:Sl w B d M)(h1:L.length<=3000)(_h2:M.length<=3000)(hle:val M<=val L):
 Calls prog 361 #[.slice A L.length c,.slice B M.length d] w (MQ w (val L-val M) L.length):=by
 have JU:=akw (λw (h:Sl w A c L)=>tu A c L w h);have JV:=akw (λw (h:Sl w B d M)=>tu B d M w h);have hs:=uq.sN;have hr:=tc.sN;have xo:=oc L;have Q9:=oc M;have vX:=n9 L;have nd:=n9 M;have Bq:(gT M).length<=(gT L).length:=by
  apply bY;intro h;have:=Iq hs.ok (xM M) aD;omega
 unfold lI at vX nd;rw[<-xo,<-Q9]at hle ⊢;clear xo Q9;obtain⟨n1,rz⟩:∃ n,n=L.length:=⟨_,rfl⟩
 obtain⟨n2,jO⟩:∃ n,n=M.length:=⟨_,rfl⟩
 rw[<-rz]at h1 vX JU ⊢;rw[<-jO]at _h2 nd JV ⊢;have HTL:=akw (JU.out w uq);have HTM:=akw (JV.out w tc);clear JU JV uq tc rz jO;generalize gT L=L at *
 generalize gT M=M at *
 obtain⟨l,hl⟩:∃ l,l=L.length:=⟨_,rfl⟩
 obtain⟨m,hm⟩:∃ m,m=M.length:=⟨_,rfl⟩
 rw[<-hl]at vX HTL Bq;rw[<-hm]at nd HTM Bq;have HL:=akw hl;have HM:=akw hm;have HLE:=akw hle;clear hl hm hle;have oz:=BK l aD;have ug:=akw (Rw.wi w l);go_enter func361,ntmps361;go_wp2_with fail;refine HTL.out.mono ?_;rintro e w1 ⟨rfl,rfl⟩;go_wp2_with fail;refine HTM.out.mono ?_;rintro e w1 ⟨rfl,rfl⟩;go_wp2;go_loopw [6,7,8,9,19] (λcy _ _ _ i wr=>∃ (k q:Nat) (O:List Nat),k<=l/\i = .int .i64 k/\cy = .int .u32 q/\q<=1/\O.length=l/\iw O/\sP O k/\val O+val (M.take k)=val (L.take k)+4294967296^k*q/\Rw wr w.heap.size O/\iu w wr) (λ_ _ _ _ i _=>l-(intOf i).toNat)
 case atStart=>
  exact⟨0,0,List.replicate l 0,b6 _,rfl,rfl,aF,aJ,iw.AH _,sP.MM _,by simp[xP],ug.out,iu.alloc _ _⟩
 case round=>
  obtain⟨k,q,O,hk,rfl,rfl,hq,hO,kf,hz,kR,hR,hb⟩:=hrel;have HV:=akw kR;have HO:=akw hO;clear kR hO;have HZ:=akw hz;clear hz;by_cases iE:k<l
  .have su:k<L.length:=by have:=HL.out;omega
   obtain⟨ab,ao,e1,_,c1⟩:=(hs.below hb).k0 su;have mi:L[k]<4294967296:=hs.ok.get su;have ho:=HZ.out.at (by have:=HO.out;omega)
   have c4:=hR.frozen k;have FZ:=hR.cell ho;have HT:=akw (wL L k su);have HY:=akw (tI M k);have oK:M.getD k 0<4294967296:=hr.ok.getD k;have HYc:=akw (λ(h:k<M.length)=>(hr.below hb).k0 h);have HYg:=akw (λ(h:k<M.length)=>yf h);have HYn:=akw (λ(h:¬k<M.length)=>Bd h);obtain⟨a,ha⟩:∃ a,a=L[k]:=⟨_,rfl⟩
   rw[<-ha]at c1 mi HT;clear ha su;have HN:=akw (λv=>HZ.out.set v);have HOK:=akw (λ(v:Nat) (h:v<4294967296)=>kf.set k h);have HR2:=akw (λv:Nat=>hR.set k v);have HE2:=akw (λv:Value=>hb.setCell (p:=⟨w.heap.size,k,none⟩) (bp _) v);have HO0:=akw ho;clear ho hR hb kf;subst e1;by_cases Ri:k<m
   .have vf:k<M.length:=by have:=HM.out;omega
    obtain⟨bb,bo,e2,_,c2⟩:=HYc.out vf;subst e2;rw[<-HYg.out vf]at c2;generalize M.getD k 0=b at *
    clear HYc HYg HYn vf;have HS:=akw (V2 HO0.out HV.out HT.out HY.out (CN a b q mi oK hq).1);have HD:=akw (CN a b q mi oK hq).2;have HA:=akw (λw=>VZ a b q w mi oK hq);generalize vR a b q=dd at *
    generalize zo a b q=bb' at *
    go_wp2_with fail;refine(HA.out _).mono ?_;rintro e w1 ⟨rfl,rfl⟩;go_wp2;go_roundw
    case rel=>
     exact⟨k+1,bb',O.set k dd,aD,by go_num,rfl,HD.out.1,by rw[cI];exact HO.out,HOK.out _ HD.out.2,HN.out _,HS.out,HR2.out _,HE2.out _⟩
    case measure=>simp[intOf];omega
   .rw [HYn.out (by have:=HM.out;omega)]at HY;clear HYc HYg HYn oK;have HS:=akw (V2 HO0.out HV.out HT.out HY.out (CN a 0 q mi aF hq).1);have HD:=akw (CN a 0 q mi aF hq).2;have HA:=akw (λw=>VZ a 0 q w mi aF hq);generalize vR a 0 q=dd at *
    generalize zo a 0 q=bb' at *
    go_wp2_with fail;refine(HA.out _).mono ?_;rintro e w1 ⟨rfl,rfl⟩;go_wp2;go_roundw
    case rel=>
     exact⟨k+1,bb',O.set k dd,aD,by go_num,rfl,HD.out.1,by rw[cI];exact HO.out,HOK.out _ HD.out.2,HN.out _,HS.out,HR2.out _,HE2.out _⟩
    case measure=>simp[intOf];omega
  .obtain rfl:k=l:= aD ;have HF:=akw (show val O=val L-val M by
    have h:=HV.out;rw[show L.take k=L from cG (by rw[HL.out];exact bp _),show M.take k=M from cG (by rw[<-HM.out];exact Bq)]at h;exact(V1 kf HO.out h HLE.out).2)
   go_wp2;go_ret;have sA:=hR.sl kf (by rw[HO.out];omega);exact⟨_,HF.out,kf,by rw[HO.out];exact vX,_,_,(by rw[HO.out];rfl),sA,hb⟩
def Wk{T:List Nat}{v:Nat}(h:iw T)(hv:val T=v):gT T=gK v:=by rw[qJ h,hv]
def adm(A B:Option Addr)(c d:Nat)(L M:List Nat)(w:World)(hs:Sl w A c L)(hr:Sl w B d M)(h1:L.length<=256)(h2:M.length<=256)(hf:(gK (val L+val M)).length<=256):
 Calls prog 321 #[.slice A L.length c,.slice B M.length d] w (AV w (gK (val L+val M)) 0):=by
 have H1:=akw (λw (h:Sl w A c L) (k:Sl w B d M)=>adz A B c d L M w h k aD aD);generalize val L+val M=v at *
 go_enter func321,ntmps321;go_wp2_with fail;refine(R4 _ A B _ c _ d _ false (MS _ _ _ _ _ _ _) (MT _ _ _ _ _ _ _) aR).mono ?_;rintro e w' ⟨rfl,rfl⟩;go_wp2_with fail;refine(H1.out _ (hs.alloc _) (hr.alloc _)).mono ?_;rintro e w' ⟨T,hv,hk,hl,A',c',rfl,ns,hb⟩;have ht:=akw (Wk hk hv);go_wp2_with fail;refine(DX A' c' T _ ns (by rw[ht.out];exact hf)).mono ?_;rintro e w'' ⟨A'',c'',rfl,pH,mf⟩;rw[ht.out]at pH ⊢;go_wp2;go_ret2;exact⟨A'',c'',rfl,pH,(iu.alloc _ _).trans (hb.trans mf)⟩
def ady(A B:Option Addr)(c d:Nat)(L M:List Nat)(w:World)(hs:Sl w A c L)(hr:Sl w B d M)(h1:L.length<=256)(h2:M.length<=256)(hle:val M<=val L):
 Calls prog 322 #[.slice A L.length c,.slice B M.length d] w (AV w (gK (val L-val M)) 0):=by
 have H1:=akw (λw (h:Sl w A c L) (k:Sl w B d M)=>adE A B c d L M w h k aD aD hle);have HC:=akw (λw (h:Sl w A c L) (k:Sl w B d M)=>GK A B c d L M w h k aD aD);have hc:decide (kv (val L) (val M)<0)=false:=by
  apply bl;unfold kv;rw[bh aD];split<;>decide
 have hf:(gK (val L-val M)).length<=256:=bM (xw (dP _ _)) (K4 hs.ok h1);generalize val L-val M=v at *
 generalize kv (val L) (val M)=q at *
 clear hle;go_enter func322,ntmps322;go_wp2_with fail;refine(R4 _ A B _ c _ d _ false (MS _ _ _ _ _ _ _) (MT _ _ _ _ _ _ _) aR).mono ?_;rintro e w' ⟨rfl,rfl⟩;go_wp2_with fail;refine(HC.out _ (hs.alloc _) (hr.alloc _)).mono ?_;rintro e w1 ⟨rfl,kJ⟩;go_wp2_with fail;refine(H1.out _ ((hs.alloc _).below kJ) ((hr.alloc _).below kJ)).mono ?_;rintro e w' ⟨T,hv,hk,hl,A',c',rfl,ns,hb⟩;have ht:=akw (Wk hk hv);go_wp2_with fail;refine(DX A' c' T _ ns (by rw[ht.out];exact hf)).mono ?_;rintro e w'' ⟨A'',c'',rfl,pH,mf⟩;rw[ht.out]at pH ⊢;go_wp2;go_ret2;exact⟨A'',c'',rfl,pH,(iu.alloc _ _).trans (kJ.trans (hb.trans mf))⟩
end Go.Proofs.YtkjkcjhacddojaaGreatDoor
namespace Go.Proofs.YtkjkcjhacddojaaGreatDoor.Fp
def NS(d:Dy):Dy:=if pe d then d else ix
def NT(d:Dy):Int:=if pe d then 0 else 9
def Yk{d:Dy}(h:pe d):NS d=d:=bj h
def Yj{d:Dy}(h:pe d):NT d=0:=bj h
def V4{a b:Dy}(ha:a.m≠0)(hb:b.m≠0):iM a b=iM b a:=by
 unfold iM;rw[bh ha,bh hb,bh hb,bh ha,Int.min_comm,Int.add_comm]
def iO(m:Nat)(e:Int)(p:Nat):Nat:=(max (max ((gU m:Int)-p) (-16384-e)) 0).toNat
def ks(m:Nat)(e:Int)(more:Bool)(p:Nat)(out:Bool):Nat:=
 m/2^iO m e p+if out=true/\(more=true\/m%2^iO m e p≠0)then 1 else 0
def lr(m:Nat)(e:Int)(more:Bool)(p:Nat)(out:Bool):Bool:=
 decide (ks m e more p out≠0)&&decide (16384<(gU (ks m e more p out):Int)+e+iO m e p)
def jK(neg:Bool)(m:Nat)(e:Int)(more:Bool)(p:Nat)(up:Bool):Dy:=
 if lr m e more p (neg != up)=true then(if(neg != up)=true then ix else canon neg (2^p-1) (16384-p))else canon neg (ks m e more p (neg != up)) (e+iO m e p)
def jD(neg:Bool)(m:Nat)(e:Int)(more:Bool)(p:Nat)(up:Bool):Int:=
 if(lr m e more p (neg != up)&&(neg != up))=true then 9 else 0
def YZ{N d k:Nat}:(N/2^d%2^k≠0\/N%2^d≠0)↔N%2^(d+k)≠0:=by
 have e1:N%2^(d+k)=N%2^d+2^d*(N/2^d%2^k):=by rw[bq,fP]
 have hp:0<2^d:=bu aF;rw[e1];constructor
 .rintro (h|h)
  .have:=eP hp (ep h);omega
  .omega
 .intro h;by_cases h1:N%2^d=0
  .left;intro h2;rw[h1,h2,cH]at h;exact h rfl
  .exact .inr h1
def YC{N:Nat}{E:Int}{more:Bool}{d p:Nat}(hb:p<gU (N/2^d)):
 iO (N/2^d) (E+d) p+d=iO N E p /\
 ∀ out,ks (N/2^d) (E+d) (more||decide (N%2^d≠0)) p out=ks N E more p out:=by
 have hN:d<gU N:=by
  apply bY;intro h;have h1:N<2^d:=kB.1 aD;rw[ca h1]at hb;simp[gU]at hb
 have yh:gU (N/2^d)+d=gU N:=by
  have h0:N/2^d≠0:=by intro h;rw[h]at hb;simp[gU]at hb
  have h1:=qK h0;have h2:=px (N/2^d);obtain⟨j,hj⟩:∃ j,gU (N/2^d)=j+1:=⟨gU (N/2^d)-1,aD⟩
  rw[hj]at h1 h2 ⊢;rw[dB,de (bu aF),<-bq]at h1;rw[bZ (bu aF),<-bq]at h2;have:=tR (k:=j+d) h1 (by rw[(aD:j+d+1=j+1+d)];exact h2);omega
 have hk:iO (N/2^d) (E+d) p+d=iO N E p:=by
  unfold iO;omega
 refine⟨hk,λout=>?_⟩;unfold ks;rw[<-hk];generalize iO (N/2^d) (E+d) p=k;have Ka:=@YZ N d k;rw[(aD:k+d=d+k),cJ,<-bq];congr 1;have:((more||decide (N%2^d≠0))=true\/N/2^d%2^k≠0)↔(more=true\/N%2^(d+k)≠0):=by
  rw[<-Ka];simp only[dJ,cF];constructor
  .rintro ((h|h)|h)
   .exact .inl h
   .exact .inr (.inr h)
   .exact .inr (.inl h)
  .rintro (h|h|h)
   .exact .inl (.inl h)
   .exact .inr h
   .exact .inl (.inr h)
 by_cases ho:out=true
 .simp only[ho,true_and,this]
 .rw [bh (λh=>ho h.1),bh (λh=>ho h.1)]
def Ff{N:Nat}{E:Int}{more:Bool}{d p:Nat}(neg up:Bool)(hb:p<gU (N/2^d)):
 jK neg (N/2^d) (E+d) (more||decide (N%2^d≠0)) p up=jK neg N E more p up /\
 jD neg (N/2^d) (E+d) (more||decide (N%2^d≠0)) p up=jD neg N E more p up:=by
 obtain⟨hk,hq⟩:=YC (more:=more) (E:=E) hb;have hq:=hq (neg != up);have e1:E+(d:Int)+(iO (N/2^d) (E+d) p:Int)=E+(iO N E p:Int):= aD ;have e2:(gU (ks N E more p (neg != up)):Int)+(E+(d:Int))+(iO (N/2^d) (E+d) p:Int)=(gU (ks N E more p (neg != up)):Int)+E+(iO N E p:Int):= aD ;have ho:lr (N/2^d) (E+d) (more||decide (N%2^d≠0)) p (neg != up)=lr N E more p (neg != up):=by
  unfold lr;rw[hq,e2]
 unfold jK jD;rw[hq,ho,e1];exact⟨rfl,rfl⟩
def I0(s:Bool)(m:Nat)(e:Int)(j:Nat):canon s (m*2^j) (e-j)=canon s m e:=by
 by_cases h0:m=0
 .subst h0;rw[cB];rfl
 .have h1:m*2^j≠0:=ez h0 (ef (bu aF));obtain⟨q,hq,he⟩:=zu h0;have hc:jY (m*2^j)=jY m+j:=by
   conv=>lhs;rw[he,bw,<-bq]
   exact wT hq _
  unfold canon;rw[bh h1,bh h0,hc,bq,bB (2^jY m),<-cJ,dD _ (bu aF)];rw[(aD:e-(j:Int)+((jY m+j:Nat):Int)=e+(jY m:Int))]
def YB(neg up:Bool)(N:Nat)(E:Int)(j p:Nat)(h0:N≠0):
 jK neg (N*2^j) (E-j) false p up=jK neg N E false p up/\jD neg (N*2^j) (E-j) false p up=jD neg N E false p up:=by
 have yh:=qw h0 j;by_cases hk:iO N E p=0
 .
  have rp:iO (N*2^j) (E-j) p<=j:=by unfold iO at hk ⊢;rw[yh];omega
  obtain⟨i,hi⟩:∃ i,j=i+iO (N*2^j) (E-j) p:=⟨j-iO (N*2^j) (E-j) p,aD⟩
  generalize hK:iO (N*2^j) (E-j) p=k at *
  have hdiv:N*2^j/2^k=N*2^i:=by
   rw[hi,bq,<-bw,dD _ (bu aF)]
  have Ks:N*2^j%2^k=0:=by
   rw[hi,bq,<-bw];exact fC _ _
  have hq:∀ out,ks (N*2^j) (E-j) false p out=N*2^i:=λout=>by
   unfold ks;rw[hK,hdiv,Ks];simp
  have s9:∀ out,ks N E false p out=N:=λout=>by
   unfold ks;rw[hk];simp[cT]
  have kV:N*2^i≠0:=ez h0 (ef (bu aF));have ho:∀ out,lr (N*2^j) (E-j) false p out=lr N E false p out:=λout=>by
   unfold lr;rw[hq,s9,hK,hk,qw h0 i];simp only[cR,kV,h0,eF,fN,er];rw[aj6];omega
  unfold jK jD;rw[ho,hq,s9,hK,hk];rw[(aD:E-(j:Int)+k=E+((0:Nat):Int)-(i:Int)),I0];exact⟨rfl,rfl⟩
 .have rp:iO (N*2^j) (E-j) p=iO N E p+j:=by unfold iO at hk ⊢;rw[yh];omega
  have hq:∀ out,ks (N*2^j) (E-j) false p out=ks N E false p out:=λout=>by
   unfold ks;rw[rp,bq,bB (2^iO N E p),<-cJ,dD _ (bu aF),bB N,gC];have:(2^j*(N%2^iO N E p)≠0)↔(N%2^iO N E p≠0):=by
    rw[cR,cR,gD];have:=bu (n:=j) (aF:0<2);omega
   simp only[this]
  have ho:∀ out,lr (N*2^j) (E-j) false p out=lr N E false p out:=λout=>by
   unfold lr;rw[hq,rp];congr 2;rw[eq_iff_iff];omega
  unfold jK jD;rw[ho,hq,rp];rw[(aD:E-(j:Int)+((iO N E p+j:Nat):Int)=E+(iO N E p:Int))];exact⟨rfl,rfl⟩
def ji(d:Dy)(p:Nat)(up:Bool):Dy:=jK d.neg d.m d.e false p up
def jl(d:Dy)(p:Nat)(up:Bool):Int:=jD d.neg d.m d.e false p up
def Vf(s up:Bool)(m:Nat)(e:Int)(p:Nat)(h0:m≠0):
 ji (canon s m e) p up=jK s m e false p up/\jl (canon s m e) p up=jD s m e false p up:=by
 have hm:=Fl h0;have hq:m/2^jY m≠0:=by have:=BQ h0;omega
 have h:=YB s up (m/2^jY m) (e+jY m) (jY m) p hq;rw[hm,(aD:e+(jY m:Int)-(jY m:Int)=e)]at h;unfold ji jl canon;rw[bh h0];exact⟨h.1.symm,h.2.symm⟩
def zq{s:Bool}{m:Nat}{e:Int}(h0:m≠0):(gU (canon s m e).m:Int)+(canon s m e).e=gU m+e/\e<=(canon s m e).e/\(canon s m e).m≠0/\gU (canon s m e).m<=gU m:=by
 have hm:=Fl h0;have hq:m/2^jY m≠0:=by have:=BQ h0;omega
 have h:=qw hq (jY m);rw[hm]at h;unfold canon;rw[bh h0];simp only;exact⟨aD,aD,hq,aD⟩
def OB(m:Nat)(e:Int)(p:Nat):m/2^iO m e p<2^p:=by
 rw[bZ (bu aF),<-bq];refine kB.1 ?_;unfold iO;omega
def X2{s:Bool}{q p:Nat}{e:Int}(h:q<=2^p)(hp:1<=p):gU (canon s q e).m<=p:=by
 by_cases h0:q=0
 .subst h0;exact b6 _
 .by_cases h1:q=2^p
  .have hc:jY q=p:=by rw[h1];have:=wT (m:=1) rfl p;rwa[bX]at this
   unfold canon;rw[bh h0,hc,h1,Nat.div_self (bu aF)];exact bM (kB.2 (show 1<2^1 by decide)) hp
  .exact bM (zq h0).2.2.2 (kB.2 aD)
def Og(m:Nat)(e:Int)(more:Bool)(p:Nat)(out:Bool):ks m e more p out<=2^p:=by
 have:=OB m e p;unfold ks;split<;>omega
def lY(neg:Bool)(m:Nat)(e:Int)(more:Bool)(p:Nat)(up:Bool)(hp:1<=p)(gS:p<=4096):(jK neg m e more p up).gQ:=by
 unfold jK;by_cases ho:lr m e more p (neg != up)=true
 .rw [bj ho];by_cases hn:(neg != up)=true
  .rw [bj hn];exact re
  .rw [bh hn];have hpp:2<=2^p:=by
    have:=bG (n:=2) aF hp;omega
   have h0:2^p-1≠0:= aD ;have hb:gU (2^p-1)=p:=by
    obtain⟨j,rfl⟩:∃ j,p=j+1:=⟨p-1,aD⟩
    have h2:2^(j+1)=2^j*2:=bE _ _;have h3:=bu (n:=j) (aF:0<2);exact tR aD aD 
   obtain⟨h1,h2,h3,h4⟩:=zq (s:=neg) (e:=(16384:Int)-p) h0;have h5:=mZ h3;exact⟨rj _ _ _,.inr ⟨aD,aD,aD,aD⟩⟩
 .rw [bh ho];refine⟨rj _ _ _,?_⟩;by_cases h0:ks m e more p (neg != up)=0
  .rw [h0];exact .inl rfl
  .have hq:=X2 (s:=neg) (e:=e+(iO m e p:Int)) (Og m e more p (neg != up)) hp;obtain⟨h1,h2,h3,h4⟩:=zq (s:=neg) (e:=e+(iO m e p:Int)) h0;have h5:=mZ h3;have h6:-16384<=e+(iO m e p:Int):=by unfold iO;omega
   unfold lr at ho;simp only[cR,h0,eF,fN,er,cF]at ho;exact .inr ⟨aD,aD,aD,aD⟩
def CM{neg:Bool}{m:Nat}{e:Int}{more:Bool}{p:Nat}{up:Bool}:jD neg m e more p up=0↔¬(lr m e more p (neg != up)=true/\(neg != up)=true):=by
 unfold jD;cases lr m e more p (neg != up)<;>cases(neg != up)<;>simp
def Oi(neg:Bool)(m:Nat)(e:Int)(more:Bool)(p:Nat)(h1:jD neg m e more p false=0)(h2:jD neg m e more p true=0):
 jh (jK neg m e more p false) (jK neg m e more p true)<=0:=by
 have qg:¬lr m e more p true=true:=by
  cases neg
  .rw [CM]at h2;simpa using h2
  .rw [CM]at h1;simpa using h1
 have hle:ks m e more p false<=ks m e more p true:=by
  unfold ks;simp only[b9,false_and,bF];omega
 have lZ:¬lr m e more p false=true:=by
  unfold lr at qg ⊢;intro h;apply qg;simp only[bQ,cF]at h ⊢;have:=sg hle;exact⟨aD,aD⟩
 have key:∀ o:Bool,¬lr m e more p o=true:=λo=>by cases o;exact lZ;exact qg
 unfold jK;rw[bh (key _),bh (key _)];rw[zt (k:=e+(iO m e p:Int)) (xU (b8 _)) (xU (b8 _)),Ai (b8 _),Ai (b8 _)];rw[show(e+(iO m e p:Int)-(e+(iO m e p:Int))).toNat=0 by omega];simp only[bV,bW];unfold tW;cases neg
 .simp only[b9,bF,Bool.false_bne];split
  .decide
  .split<;>omega
 .simp only[bI,Bool.true_bne,eC,e8];split
  .decide
  .split<;>omega
def mr(b:Dy)(low:Int):Nat:=if low<=b.e then b.m*2^(b.e-low).toNat else b.m/2^(low-b.e).toNat
def nf(b:Dy)(low:Int):Bool:=decide (¬low<=b.e)&&decide (b.m%2^(low-b.e).toNat≠0)
def V3{a b:Dy}(ha:a.lA)(hb:b.lA){K:Int}(h1:K<=a.e)(h2:K<=b.e):iM a b=lE (a.num K+b.num K) K:=by
 refine Jl (k:=K) (E8 ha hb) (rj _ _ _) (IK (.inr h1) (.inr h2)) (IJ (b8 _)) ?_;rw[Mw (.inr h1) (.inr h2),Lq (b8 _),show(K-K).toNat=0 by omega];simp
def Ho{a b:Dy}(ha:a.lA)(hb:b.lA){K:Int}(h1:K<=a.e)(h2:K<=b.e)(s:Bool)(Z:Nat)(h0:Z≠0)(hz:a.num K+b.num K=if s then -(Z:Int)else(Z:Int))(p:Nat)(up:Bool):
 ji (iM a b) p up=jK s Z K false p up/\jl (iM a b) p up=jD s Z K false p up:=by
 have:iM a b=canon s Z K:=by rw[V3 ha hb h1 h2,hz,E6]
 rw[this];exact Vf s up Z K p h0
def GS(d:Dy)(K:Int):d.num K=if d.neg then -(d.jP K:Int)else(d.jP K:Int):=rfl
section
variable {a b:Dy} {low:Int} {p:Nat}
def Mj(a0:a.m≠0)(b0:b.m≠0)(h1:low<=a.e)(h2:low<=a.jj-p-8)(h3:low<=b.e\/3<=a.jj-b.jj):
 ∃ (K:Int) (d:Nat),K<=a.e/\K<=b.e/\low=K+d/\a.jP K=a.m*2^(a.e-low).toNat*2^d/\mr b low=b.jP K/2^d/\(nf b low=decide (b.jP K%2^d≠0)) /\
  (d=0\/(p+8<=gU (a.m*2^(a.e-low).toNat)/\gU (b.jP K/2^d)+3<=gU (a.m*2^(a.e-low).toNat))):=by
 have ta:a.jj=gU a.m+a.e:=by unfold Dy.jj;rw[bh a0]
 have tb:b.jj=gU b.m+b.e:=by unfold Dy.jj;rw[bh b0]
 have hx:=qw a0 (a.e-low).toNat
 by_cases h:low<=b.e
 .refine ⟨low,0,h1,h,aD,by unfold Dy.jP;simp,?_,?_,.inl rfl⟩
  .unfold mr Dy.jP;rw[bj h];simp
  .unfold nf;simp[h,cT]
 .refine ⟨b.e,(low-b.e).toNat,aD,b8 _,aD,?_,?_,?_,.inr ⟨aD,?_⟩⟩
  .unfold Dy.jP;rw[bw,<-bq];congr 2;omega
  .unfold mr Dy.jP;rw[bh h];simp
  .unfold nf Dy.jP;simp[h]
  .have hm:b.jP b.e=b.m:=by unfold Dy.jP;simp
   rw[hm];have hd:gU (b.m/2^(low-b.e).toNat)<=gU b.m-(low-b.e).toNat:=by
    rw[kB,bZ (bu aF),<-bq];exact kB.1 aD 
   have:=h3.resolve_left h;omega
def ag6(ha:a.lA)(hb:b.lA)(a0:a.m≠0)(b0:b.m≠0)(h1:low<=a.e)(h2:low<=a.jj-p-8)(h3:low<=b.e\/3<=a.jj-b.jj)(hs:a.neg=b.neg)(up:Bool):
 jK a.neg (a.m*2^(a.e-low).toNat+mr b low) low (nf b low) p up=ji (iM a b) p up/\jD a.neg (a.m*2^(a.e-low).toNat+mr b low) low (nf b low) p up=jl (iM a b) p up:=by
 obtain⟨K,d,k1,k2,rfl,hx,hy,hl,hd⟩:=Mj (p:=p) a0 b0 h1 h2 h3;generalize a.m*2^(a.e-(K+d)).toNat=x at *
 have ma:=vr a0 K;have mb:=vr b0 K;obtain⟨r1,r2⟩:=Ho ha hb k1 k2 a.neg (a.jP K+b.jP K) aD (by
  rw[GS a,GS b,<-hs];cases a.neg<;>simp<;>omega) p up
 rw[r1,r2,hy,hl];have e1:(a.jP K+b.jP K)/2^d=x+b.jP K/2^d:=by
  rw[hx,bB x,dk (bu aF)]
 have e2:(a.jP K+b.jP K)%2^d=b.jP K%2^d:=by
  rw[hx,bB x,dG]
 rcases hd with rfl|⟨uh,rn⟩
 .simp only[bV,dR,cT]at e1 ⊢;rw[<-e1];have:K+((0:Nat):Int)=K:= aD ;rw[this];simp
 .have hb:p<gU ((a.jP K+b.jP K)/2^d):=by
   rw[e1];have:=sg (aD:x<=x+b.jP K/2^d);omega
  have h:=Ff (E:=K) (more:=false) a.neg up hb;rw[e1,e2,fQ]at h;exact h
def ah1{x N D:Nat}(hD:0<D)(h:N<=x*D):(x*D-N)/D=x-(N/D+if N%D≠0 then 1 else 0)/\((x*D-N)%D≠0↔N%D≠0)/\N/D+(if N%D≠0 then 1 else 0)<=x:=by
 have hN:=ck N D;have hr:=bA N hD;generalize N/D=q at *
 generalize N%D=r at *
 by_cases h0:r=0
 .subst h0;simp only[cR,gj,bF,bK]at hN ⊢;have hq:q<=x:=by
   apply bY;intro h';have:=bL D (aD:x+1<=q);rw[bT,bB q]at this;omega
  have e:x*D-N=(x-q)*D:=by rw[Nat.sub_mul,<-hN,bB q]
  rw[e,dD _ hD,fC];exact⟨rfl,aJ,hq⟩
 .have hq:q+1<=x:=by
   apply bY;intro h';have:=bL D (aD:x<=q);rw[bB q]at this;omega
  have e:x*D-N=(D-r)+D*(x-(q+1)):=by
   have h1:D*(x-(q+1))=D*x-D*(q+1):=Nat.mul_sub _ _ _;have h2:D*(q+1)<=D*x:=cA _ hq;rw[bH,bW]at h1 h2;rw[bB x];omega
  have iE:D-r<D:= aD ;rw[e,eO _ _ hD,ca iE,dY,bJ iE];simp only[cR,h0,eF,bI];exact⟨aD,⟨λ_=>trivial,λ_=> aD⟩,hq⟩
def ag5(ha:a.lA)(hb:b.lA)(a0:a.m≠0)(b0:b.m≠0)(h1:low<=a.e)(h2:low<=a.jj-p-8)(h3:low<=b.e\/3<=a.jj-b.jj)(hs:a.neg≠b.neg)(up:Bool):
  (a.m*2^(a.e-low).toNat<mr b low+(if nf b low=true then 1 else 0) ->
   jK (!a.neg) (mr b low+(if nf b low=true then 1 else 0)-a.m*2^(a.e-low).toNat) low false p up=ji (iM a b) p up/\jD (!a.neg) (mr b low+(if nf b low=true then 1 else 0)-a.m*2^(a.e-low).toNat) low false p up=jl (iM a b) p up) /\
  (mr b low+(if nf b low=true then 1 else 0)<=a.m*2^(a.e-low).toNat ->
   (a.m*2^(a.e-low).toNat-(mr b low+(if nf b low=true then 1 else 0))=0/\nf b low=false->iM a b=ix) /\
   (¬(a.m*2^(a.e-low).toNat-(mr b low+(if nf b low=true then 1 else 0))=0/\nf b low=false) ->
    jK a.neg (a.m*2^(a.e-low).toNat-(mr b low+(if nf b low=true then 1 else 0))) low (nf b low) p up=ji (iM a b) p up/\jD a.neg (a.m*2^(a.e-low).toNat-(mr b low+(if nf b low=true then 1 else 0))) low (nf b low) p up=jl (iM a b) p up)):=by
 obtain⟨K,d,k1,k2,rfl,hx,hy,hl,hd⟩:=Mj (p:=p) a0 b0 h1 h2 h3;generalize a.m*2^(a.e-(K+d)).toNat=x at *
 have ma:=vr a0 K;have mb:=vr b0 K;have um:a.num K+b.num K=if a.neg then(b.jP K:Int)-a.jP K else(a.jP K:Int)-b.jP K:=by
  rw[GS a,GS b];cases h:a.neg<;>cases h':b.neg<;>simp[h,h']at hs ⊢ <;> omega
 rw[hy,hl];rcases hd with rfl|⟨uh,rn⟩
 .
  rw[bV,bW]at hx;have e0:K+((0:Nat):Int)=K:= aD ;simp only[bV,dR,cT,cR,gj,decide_false,b9,bF,bK,e0,and_true];refine⟨λiE=>?_,λhle=>⟨λhz=>?_,λhz=>?_⟩⟩
  .obtain ⟨r1,r2⟩:=Ho ha hb k1 k2 (!a.neg) (b.jP K-x) aD (by
    rw[um,hx];cases a.neg<;>simp<;>omega) p up
   exact⟨r1.symm,r2.symm⟩
  .rw [V3 ha hb k1 k2,um,hx];have:x=b.jP K:= aD ;rw[this];cases a.neg<;>simp[lE,canon,ix]
  .obtain ⟨r1,r2⟩:=Ho ha hb k1 k2 a.neg (x-b.jP K) aD (by
    rw[um,hx];cases a.neg<;>simp<;>omega) p up
   exact⟨r1.symm,r2.symm⟩
 .
  have hD:=bu (n:=d) (aF:0<2);have lP:x≠0:=by intro h;rw[h]at uh;simp[gU]at uh
  obtain⟨j,hj⟩:∃ j,gU x=j+3:=⟨gU x-3,aD⟩
  have lC:=qK lP;rw[hj,(aD:j+3-1=j+2),bq]at lC;have hyl:b.jP K/2^d<2^j:=kB.1 aD;have hle:b.jP K<=x*2^d:=by
   have h5:=ck (b.jP K) (2^d);have h6:=bA (b.jP K) hD;have h7:2^d*(b.jP K/2^d+1)<=2^d*x:=cA _ aD;rw[bH,bW,bB _ x]at h7;omega
  obtain⟨e1,e2,e3⟩:=ah1 hD hle;have hc:(if decide (b.jP K%2^d≠0)=true then 1 else 0)=(if b.jP K%2^d≠0 then 1 else 0):=by simp only[cF]
  rw[hc];have wZ:p<gU (x-(b.jP K/2^d+if b.jP K%2^d≠0 then 1 else 0)):=by
   have h8:2^(j+1)<=x-(b.jP K/2^d+if b.jP K%2^d≠0 then 1 else 0):=by
    rw[bE];have h9:2^j*2^2<=x:=lC;have sU:=bu (n:=j) (aF:0<2);split<;>omega
   have:=wh.2 h8;omega
  refine⟨λiE=> aD,λ_=>⟨λhz=>?_,λ_=>?_⟩⟩
  .exfalso;rw[hz.1]at wZ;simp[gU]at wZ
  .obtain ⟨r1,r2⟩:=Ho ha hb k1 k2 a.neg (a.jP K-b.jP K) (by
    intro h;rw[<-hx,h,fm]at e1;rw[<-e1]at wZ;simp[gU]at wZ) (by
    rw[um];cases a.neg<;>simp<;>omega) p up
   rw[r1,r2,hx];rw[<-e1]at wZ ⊢;have h:=Ff (E:=K) (more:=false) a.neg up wZ;rw[fQ]at h;have e4:decide ((x*2^d-b.jP K)%2^d≠0)=decide (b.jP K%2^d≠0):=aj6.2 e2;rw[e4]at h;exact h
end
def jd(m:Nat)(e:Int)(p:Nat):Int:=max (e+gU m-p) (-16384)
def nk(m:Nat)(e:Int)(more:Bool)(p:Nat)(up:Bool):Nat:=
 if jd m e p<=e then m*2^(e-jd m e p).toNat else m/2^(jd m e p-e).toNat+if(up&&(more||decide (m%2^(jd m e p-e).toNat≠0)))=true then 1 else 0
def Of{m:Nat}{e:Int}{more:Bool}{p:Nat}(up:Bool)(h0:m≠0)(hm:more=true->p<gU m)(hp:1<=p):
 (gU (nk m e more p up):Int)+jd m e p<=16384/\jK false m e more p up=canon false (nk m e more p up) (jd m e p)/\jD false m e more p up=0 \/
 16384<(gU (nk m e more p up):Int)+jd m e p/\((up=true/\jK false m e more p up=ix/\jD false m e more p up=9)\/(up=false/\jK false m e more p up=canon false (2^p-1) (16384-p)/\jD false m e more p up=0)):=by
 have qg:(false != up)=up:=by cases up<;>rfl
 by_cases hU:jd m e p<=e
 .
  have hmf:more=false:=by
   cases Kt:more with
   |false=>rfl
   |true=>have:=hm Kt;unfold jd at hU;omega
  subst hmf;have hK:iO m e p=0:=by unfold jd at hU;unfold iO;omega
  have hQ:ks m e false p up=m:=by unfold ks;rw[hK];simp[cT]
  have hP:nk m e false p up=m*2^(e-jd m e p).toNat:=by unfold nk;rw[bj hU]
  have hb:gU (nk m e false p up)=gU m+(e-jd m e p).toNat:=by rw[hP];exact qw h0 _
  have hc:canon false (nk m e false p up) (jd m e p)=canon false m e:=by
   rw[hP];have:=I0 false m e (e-jd m e p).toNat
   rwa[(aD:e-((e-jd m e p).toNat:Int)=jd m e p)]at this
  have hO:lr m e false p up=decide (16384<(gU m:Int)+e):=by
   unfold lr;rw[hQ,hK];simp[h0]
  by_cases sx:16384<(gU m:Int)+e
  .refine .inr ⟨aD,?_⟩;unfold jK jD;rw[qg,hO,bk sx];cases up
   .exact .inr ⟨rfl,rfl,rfl⟩
   .exact .inl ⟨rfl,rfl,rfl⟩
  .refine .inl ⟨aD,?_,?_⟩
   .unfold jK;rw[qg,hO,bl sx,bh aF,hQ,hK,hc];simp
   .unfold jD;rw[qg,hO,bl sx];simp
 .have hK:iO m e p=(jd m e p-e).toNat:=by unfold jd at hU ⊢;unfold iO;omega
  have hQ:ks m e more p up=nk m e more p up:=by
   unfold ks nk;rw[bh hU,hK];congr 1;cases up<;>cases more<;>simp
  have heK:e+(iO m e p:Int)=jd m e p:=by rw[hK];omega
  have kV:16384<(gU (nk m e more p up):Int)+jd m e p->nk m e more p up≠0:=by
   intro h hz;have pr:m/2^(jd m e p-e).toNat=0:=by
    unfold nk at hz;rw[bh hU]at hz;exact(Nat.add_eq_zero_iff.1 hz).1
   have iE:m<2^(jd m e p-e).toNat:=by
    rcases Nat.div_eq_zero_iff.1 pr with h|h
    .exact absurd h (ef (bu aF))
    .exact h
   have:=kB.2 iE;rw[hz,ri]at h;have rX:=mZ h0;unfold jd at h hU this;omega
  have hO:lr m e more p up=decide (16384<(gU (nk m e more p up):Int)+jd m e p):=by
   unfold lr;rw[hQ,show(gU (nk m e more p up):Int)+e+(iO m e p:Int)=(gU (nk m e more p up):Int)+jd m e p by omega];by_cases sx:16384<(gU (nk m e more p up):Int)+jd m e p
   .simp [kV sx]
   .simp [sx]
  by_cases sx:16384<(gU (nk m e more p up):Int)+jd m e p
  .refine .inr ⟨sx,?_⟩;unfold jK jD;rw[qg,hO,bk sx];cases up
   .exact .inr ⟨rfl,rfl,rfl⟩
   .exact .inl ⟨rfl,rfl,rfl⟩
  .refine .inl ⟨aD,?_,?_⟩
   .unfold jK;rw[qg,hO,bl sx,bh aF,hQ,heK]
   .unfold jD;rw[qg,hO,bl sx];simp
def Oe{m:Nat}{e:Int}{more:Bool}{p:Nat}{up:Bool}(h0:m≠0):gU (nk m e more p up)<=p+1:=by
 unfold nk;split
 .rename_i h;rw[qw h0];unfold jd at h ⊢;omega
 .rename_i h;have h1:m/2^(jd m e p-e).toNat<2^p:=by
   rw[bZ (bu aF),<-bq];refine kB.1 ?_;unfold jd at h ⊢;omega
  refine kB.2 ?_;rw[bE];have:0<2^p:=bu aF;split<;>omega
def nI{m k:Nat}(h:gU m<=32*k):(gK m).length<=k:=by
 refine qi ?_;rw[nB];exact kB.1 h
def vQ{m k:Nat}(h:(gK m).length<=k):gU m<=32*k:=by
 have:=uy h;rw[nB]at this;exact kB.2 this
def OC{m n:Nat}(h:gU m<=n):m/2^n=0/\m%2^n=m:=by
 have:=kB.1 h;exact⟨ca this,bJ this⟩
def R8(m n:Nat):(kv (m/2^n*2^n) m != 0)=decide (m%2^n≠0):=by
 have h:=ck m (2^n);rw[bB]at h;unfold kv;by_cases h0:m%2^n=0
 .rw [bh aD,bh aD];simp[h0]
 .rw [bj aD];simp[h0]
def Om(neg:Bool)(m:Nat)(e:Int)(more:Bool)(p:Nat)(up:Bool):
 jD neg m e more p up=jD false m e more p (up != neg) /\
 (jD false m e more p (up != neg)=0->neg=true->iB (jK false m e more p (up != neg))=jK neg m e more p up) /\
 ((jD false m e more p (up != neg)≠0\/neg=false)->jK false m e more p (up != neg)=jK neg m e more p up):=by
 have qg:(false != (up != neg))=(neg != up):=by cases up<;>cases neg<;>rfl
 have hE:jD neg m e more p up=jD false m e more p (up != neg):=by unfold jD;rw[qg]
 refine⟨hE,λh hn=>?_,λh=>?_⟩
 .have h':=CM.1 h;rw[qg]at h';have neg_canon:∀ q u,iB (canon false q u)=canon true q u:=by
   intro q u;unfold canon iB;by_cases hq:q=0
   .simp [hq]
   .rw [bh hq,bh hq];have:=BQ hq;have h0:q/2^jY q≠0:= aD ;simp[h0]
  subst hn;unfold jK;rw[qg];by_cases ho:lr m e more p (true != up)=true
  .have hu:(true != up)=false:=by
    cases hq:(true != up)with
    |false=>rfl
    |true=>exact absurd ⟨ho,hq⟩ h'
   rw[bj ho,bj ho,hu];simp only[b9,bF];exact neg_canon _ _
  .rw [bh ho,bh ho];exact neg_canon _ _
 .rcases h with h|h
  .have h1:lr m e more p (neg != up)=true/\(neg != up)=true:=by
    by_cases q:lr m e more p (neg != up)=true/\(neg != up)=true
    .exact q
    .exact absurd (CM.2 (by rw[qg];exact q)) h
   unfold jK;rw[qg,bj h1.1,bj h1.2,bj h1.1,bj h1.2]
  .subst h;cases up<;>rfl
def jg(a b:Dy)(p:Nat):Int:=if a.jj-b.jj<=2 then min (min a.e (a.jj-p-8)) b.e else min a.e (a.jj-p-8)
def nv(a b:Dy)(p:Nat):Nat:=a.m*2^(a.e-jg a b p).toNat
def mq(a b:Dy)(p:Nat):Nat:=mr b (jg a b p)+if(a.neg != b.neg&&nf b (jg a b p))=true then 1 else 0
def oE(a b:Dy)(p:Nat):Bool:=(a.neg != b.neg)&&decide (nv a b p<mq a b p)
def lH(a b:Dy)(p:Nat):Nat:=if a.neg=b.neg then nv a b p+mq a b p else if nv a b p<mq a b p then mq a b p-nv a b p else nv a b p-mq a b p
def mN(a b:Dy)(p:Nat):Bool:=nf b (jg a b p) && !oE a b p
def Me(a b:Dy)(p:Nat):jg a b p<=a.e/\jg a b p<=a.jj-p-8/\(jg a b p<=b.e\/3<=a.jj-b.jj):=by
 unfold jg;split<;>omega
def Ew{a:Dy}(a0:a.m≠0):a.jj=gU a.m+a.e:=by unfold Dy.jj;rw[bh a0]
structure WU(a b:Dy)(p:Nat):Prop where
 lo:-17000<=jg a b p
 hi:jg a b p<=16384
 x:gU (nv a b p)<=4100
 x0:nv a b p≠0
 sh:(a.e-jg a b p).toNat<=60000
 sh2:(b.e-jg a b p).toNat<=60000
 sh3:(jg a b p-b.e).toNat<=60000
 y:gU (mr b (jg a b p))<=4100
 l:nf b (jg a b p)=true->p+8<=gU (nv a b p)/\gU (mr b (jg a b p))+3<=gU (nv a b p)
def H8{a b:Dy}{p:Nat}(ha:a.gQ)(hb:b.gQ)(a0:a.m≠0)(b0:b.m≠0)(ht:b.jj<=a.jj)(gS:p<=512):WU a b p:=by
 have ra:=ha.range.resolve_left a0;have rb:=hb.range.resolve_left b0;have ta:=Ew a0;have tb:=Ew b0;obtain⟨h1,h2,h3⟩:=Me a b p;have hx:gU (nv a b p)=gU a.m+(a.e-jg a b p).toNat:=qw a0 _;have mJ:jg a b p=a.e\/jg a b p=a.jj-p-8\/(a.jj-b.jj<=2/\jg a b p=b.e):=by unfold jg;split<;>omega
 have hy:gU (mr b (jg a b p))<=gU (nv a b p):=by
  unfold mr;split
  .rw [qw b0];omega
  .have:gU (b.m/2^(jg a b p-b.e).toNat)<=gU b.m-(jg a b p-b.e).toNat:=by
    rw[kB,bZ (bu aF),<-bq];exact kB.1 aD 
   omega
 have pa:=mZ a0;have pb:=mZ b0;refine⟨aD,aD,aD,?_,aD,aD,aD,aD,λhl=>?_⟩
 .intro h;unfold nv at h;exact(ez a0 (ef (bu aF))) h
 .obtain ⟨K,d,k1,k2,k3,k4,k5,k6,k7⟩:=Mj (p:=p) a0 b0 h1 h2 h3;rcases k7 with rfl|⟨k7,k8⟩
  .rw [k6]at hl;simp[cT]at hl
  .rw [k5];exact⟨k7,k8⟩
def Mx{a b:Dy}{p:Nat}(ha:a.gQ)(hb:b.gQ)(a0:a.m≠0)(b0:b.m≠0)(ht:b.jj<=a.jj)(gS:p<=512):
 gU (mq a b p)<=4101/\gU (lH a b p)<=4102/\(mN a b p=true->p<gU (lH a b p)):=by
 obtain⟨l1,l2,l3,l4,l5,l6,l7,l8,l9⟩:=H8 ha hb a0 b0 ht gS;have hy:mq a b p<=mr b (jg a b p)+1:=by unfold mq;split<;>omega
 obtain⟨K,hK⟩:∃ K:Nat,K=4100:=⟨_,rfl⟩
 have g1:4101=K+1:= aD ;have g2:4102=K+2:= aD ;rw[g1,g2];rw[<-hK]at l3 l8;have hy4:mr b (jg a b p)<2^K:=kB.1 l8;have hx4:nv a b p<2^K:=kB.1 l3;have e1:(2:Nat)^(K+1)=2*2^K:=by rw[bE];omega
 have e2:(2:Nat)^(K+2)=4*2^K:=by rw[bq];omega
 generalize (2:Nat)^K=Z at *
 refine⟨kB.2 aD,kB.2 ?_,λhl=>?_⟩
 .unfold lH;split
  .omega
  .split<;>omega
 .unfold mN at hl;simp only[bQ,fh]at hl;obtain⟨q1,q2⟩:=l9 hl.1;have hX:2^(gU (nv a b p)-1)<=nv a b p:=qK l4;rw[wh];have hY:mr b (jg a b p)<2^(gU (nv a b p)-3):=kB.1 aD;have e3:(2:Nat)^(gU (nv a b p)-1)=4*2^(gU (nv a b p)-3):=by
   rw[(aD:gU (nv a b p)-1=(gU (nv a b p)-3)+2),bq];omega
  have hp:(2:Nat)^p<=2^(gU (nv a b p)-3):=bG aF aD;unfold lH;split
  .omega
  .rename_i hs;unfold oE at hl;rw[bh (by
    have:=hl.2;simp[hs]at this;omega)]
   omega
def V6{a b:Dy}{p:Nat}(ha:a.gQ)(hb:b.gQ)(a0:a.m≠0)(b0:b.m≠0)(up:Bool):
 (lH a b p=0/\mN a b p=false->iM a b=ix) /\
 (¬(lH a b p=0/\mN a b p=false)->jK (a.neg != oE a b p) (lH a b p) (jg a b p) (mN a b p) p up=ji (iM a b) p up/\jD (a.neg != oE a b p) (lH a b p) (jg a b p) (mN a b p) p up=jl (iM a b) p up):=by
 obtain⟨h1,h2,h3⟩:=Me a b p;by_cases hs:a.neg=b.neg
 .have hn:(a.neg != b.neg)=false:=by rw[hs];simp
  have e1:oE a b p=false:=by unfold oE;rw[hn];rfl
  have e2:mN a b p=nf b (jg a b p):=by unfold mN;rw[e1];simp
  have e3:lH a b p=a.m*2^(a.e-jg a b p).toNat+mr b (jg a b p):=by unfold lH;rw[bj hs];unfold nv mq;rw[hn];simp
  have hx:lH a b p≠0:=by
   rw[e3];have:=ez a0 (ef (bu (n:=(a.e-jg a b p).toNat) (show 0<2 by decide)));omega
  refine⟨λh=>absurd h.1 hx,λ_=>?_⟩;rw[e1,e2,e3];have:=ag6 ha.canon hb.canon a0 b0 h1 h2 h3 hs up;cases hA:a.neg<;>rw[hA]at this<;>exact this
 .have hn:(a.neg != b.neg)=true:=by simpa using hs
  have eY:mq a b p=mr b (jg a b p)+if nf b (jg a b p)=true then 1 else 0:=by unfold mq;rw[hn];simp
  obtain⟨r1,r2⟩:=ag5 (p:=p) ha.canon hb.canon a0 b0 h1 h2 h3 hs up;rw[<-eY]at r1 r2;change nv a b p<mq a b p->_ at r1;change mq a b p<=nv a b p->_ at r2;by_cases hc:nv a b p<mq a b p
  .have e1:oE a b p=true:=by unfold oE;rw[hn,bk hc];rfl
   have e2:mN a b p=false:=by unfold mN;rw[e1];simp
   have e3:lH a b p=mq a b p-nv a b p:=by unfold lH;rw[bh hs,bj hc]
   rw[e1,e2,e3];refine⟨λh=> aD,λ_=>?_⟩;have:=r1 hc;cases hA:a.neg<;>rw[hA]at this<;>exact this
  .have e1:oE a b p=false:=by unfold oE;rw[hn,bl hc];rfl
   have e2:mN a b p=nf b (jg a b p):=by unfold mN;rw[e1];simp
   have e3:lH a b p=nv a b p-mq a b p:=by unfold lH;rw[bh hs,bh hc]
   rw[e1,e2,e3];obtain⟨q1,q2⟩:=r2 aD;refine⟨q1,λh=>?_⟩;have:=q2 h;cases hA:a.neg<;>rw[hA]at this<;>exact this
end Go.Proofs.YtkjkcjhacddojaaGreatDoor.Fp
namespace Go.Proofs.YtkjkcjhacddojaaGreatDoor
open Go.RowKit Fp
def IU(a b:Nat):gU (a*b)<=gU a+gU b:=by
 rw[kB,bq];exact gw (px a) (px b)
def agC(a:Dy)(A:Option Addr)(c:Nat)(w:World)(h:Sl w A c (gK a.m))(ha:a.gQ):
 Calls prog 96 #[DV a A c] w λe w'=>e = .returned (.bool true)/\iu w w':=
 Hh a.neg A c (gK a.m) a.e w true h (by have:=ha.exp;omega) (by have:=ha.exp;omega) (by simp[ha.tY])
def agy(a:Dy)(A:Option Addr)(c:Nat)(w:World)(h:Sl w A c (gK a.m)):
 Calls prog 53 #[DV a A c] w λe w'=>e = .returned (.int .i64 a.jc)/\iu w w':=by
 have:=agx a.neg A c (gK a.m) a.e w h (uK _);rw[jR]at this;exact this
def agB(a:Dy)(A:Option Addr)(c:Nat)(w:World)(h:Sl w A c (gK a.m))(ha:tJ a):
 Calls prog 171 #[DV a A c] w λe w'=>e = .returned (.int .i64 a.jj)/\iu w w':=by
 have:=agA a.neg A c (gK a.m) a.e w h (uK _) (by have:=ha.len;omega) (by have:=ha.lo;omega) (by have:=ha.hi;omega);rw[jR]at this;exact this
def X3(s:Bool)(m:Nat)(e:Int)(A:Option Addr)(c:Nat)(w:World)(hs:Sl w A c (gK m))(hl:(gK m).length<=256)(lh:-1000000<=e)(kF:e<=1000000)(qy:Tb w):
 Calls prog 255 #[.bool s,.slice A (gK m).length c,.int .i64 e] w (sO w (canon s m e)):=by
 have:=Ft s A c (gK m) e w hs aD (by have:=n9 (gK m);unfold lI at this;omega) lh kF qy;rw[jR]at this;exact this
def SS{m:Nat}(h:m=0):(((gK m).length:Int)==0)=true:=by rw[h,nt];rfl
def aey{m:Nat}(h:m≠0):(((gK m).length:Int)==0)=false:=by
 refine a7 ?_;have:gK m≠[]:=λe=>h (RZ.1 e)
 have:=eo.2 this;omega
def ajl(a b:Dy)(A B:Option Addr)(c d:Nat)(w:World)(_hs:Sl w A c (gK a.m))(hr:Sl w B d (gK b.m))(qy:Tb w)(hb:b.gQ)(h0:a.m=0):
 Calls prog 303 #[DV a A c,DV b B d] w (zf w (NS (iM a b)) (NT (iM a b))):=by
 have yn:iM a b=b:=by unfold iM;rw[bj h0]
 rw[yn,Yk hb.range,Yj hb.range];have hl:=hb.len;obtain⟨lh,kF⟩:=hb.exp;have HC:=akw (λw (h:Sl w B d (gK b.m)) (ht:Tb w)=>X3 b.neg b.m b.e B d w h hl aD aD ht);rw[hb.canon.E7]at HC;have n0:=SS h0;clear yn h0;have hE:=((iu.alloc w (.cells #[.bool b.neg,.slice B ((gK b.m).length) d,.int .i64 b.e] 39)).trans (iu.alloc (w.alloc (.cells #[.bool b.neg,.slice B ((gK b.m).length) d,.int .i64 b.e] 39)) (.cells #[.bool b.neg,.slice B ((gK b.m).length) d,.int .i64 b.e] 39))).trans (iu.alloc ((w.alloc (.cells #[.bool b.neg,.slice B ((gK b.m).length) d,.int .i64 b.e] 39)).alloc (.cells #[.bool b.neg,.slice B ((gK b.m).length) d,.int .i64 b.e] 39)) (.cells #[.bool false,.slice none 0 0,.int .i64 0] 39));have b1:=((ju.rF (W:=w) (g:=w.heap.size) aJ b.neg B ((gK b.m).length) d b.e).alloc (.cells #[.bool b.neg,.slice B ((gK b.m).length) d,.int .i64 b.e] 39)).alloc (.cells #[.bool false,.slice none 0 0,.int .i64 0] 39);have b2:=(ju.rF (W:=(w.alloc (.cells #[.bool b.neg,.slice B ((gK b.m).length) d,.int .i64 b.e] 39))) (g:=w.heap.size+1) aJ b.neg B ((gK b.m).length) d b.e).alloc (.cells #[.bool false,.slice none 0 0,.int .i64 0] 39);have b3:=ju.rF (W:=((w.alloc (.cells #[.bool b.neg,.slice B ((gK b.m).length) d,.int .i64 b.e] 39)).alloc (.cells #[.bool b.neg,.slice B ((gK b.m).length) d,.int .i64 b.e] 39))) (g:=w.heap.size+2) aJ false none 0 0 0;replace hr:=hr.below hE;replace qy:=qy.below hE;go_enter func303,ntmps303;go_wp2_with fail
 (with_reducible refine(HC.out _ hr qy).mono ?_)
 rintro r w1 ⟨A_h4,c_h4,rfl,h4,hb⟩;replace hE:=hE.trans hb;replace hr:=hr.below hb;replace qy:=qy.below hb;replace b1:=b1.ext hb;replace b2:=b2.ext hb;replace b3:=b3.ext hb;clear hb;have ajE:=b3.c0;have yb30:=b3.fr 0;have ajF:=b3.c1;have yb31:=b3.fr 1;have ajG:=b3.c2;have yb32:=b3.fr 2;go_wp2;exact CP (d:=b) rfl rfl rfl rfl (b3.set _ _ _ _ _) rfl (b3.sM h4 _ _ _ _ _) (ju.sc hE aD _ _ _ _ _)
def Zk(a:Dy)(A:Option Addr)(c:Nat)(w:World)(h:Sl w A c (gK a.m))(ha:a.gQ):
 Calls prog 216 #[DV a A c] w λe w'=>e = .returned (.int .i64 a.jj)/\iu w w':=by
 have:=Jk a.neg A c (gK a.m) a.e w h ha.tY;rw[jR]at this;exact this
set_option maxRecDepth 100000 in
set_option maxHeartbeats 8000000 in
def Zi(a : Dy)(A : Option Addr)(c : Nat)(w : World)(hs : Sl w A c (gK a.m))(ha : a.gQ):
    Calls prog 166 #[DV a A c] w (sO w (iB a)) := by
  have HV := akw (λw (h : Sl w A c (gK a.m)) => OR a A c w h ha);have hl := ha.len;by_cases h0 : a.m=0
  . have hz : Hid (iB a=ix) := by
      show iB a=ix;obtain⟨s,m,e⟩ := a;rcases ha.canon with⟨h1,h2,h3⟩|h1
      . simp only at h1 h2 h3;subst h1 h2 h3;rfl
      . simp only at h0 h1;omega
    have n0 := SS h0;clear h0;have hE := (iu.alloc w (.cells #[.bool a.neg,.slice A ((gK a.m).length) c,.int .i64 a.e] 39)).trans (iu.alloc (w.alloc (.cells #[.bool a.neg,.slice A ((gK a.m).length) c,.int .i64 a.e] 39)) (.cells #[.bool false,.slice none 0 0,.int .i64 0] 39));have b1 := (ju.rF (W := w) (g := w.heap.size) aJ a.neg A ((gK a.m).length) c a.e).alloc (.cells #[.bool false,.slice none 0 0,.int .i64 0] 39);have b2 := ju.rF (W := (w.alloc (.cells #[.bool a.neg,.slice A ((gK a.m).length) c,.int .i64 a.e] 39))) (g := w.heap.size+1) aJ false none 0 0 0;replace hs := hs.below hE;go_enter func166,ntmps166;go_wp2_with fail
    (with_reducible refine(HV.out _ hs).mono ?_)
    rintro r w1 ⟨rfl,hb⟩;replace hE := hE.trans hb;replace hs := hs.below hb;replace b1 := b1.ext hb;replace b2 := b2.ext hb;clear hb;have IA := b1.c0;have IB := b1.c1;have IC := b1.c2;have ajB := b2.c0;have yb20 := b2.fr 0;have ajC := b2.c1;have yb21 := b2.fr 1;have ajD := b2.c2;have yb22 := b2.fr 2;go_wp2;rw[hz.out];exact rT (d := ix) rfl rfl rfl (b2.set _ _ _ _ _) (by rw[show ix.m=0 from rfl,nt];rfl) (by rw[show ix.m=0 from rfl,nt];exact Sl.nil _) (ju.sc hE aD _ _ _ _ _)
  . have n0 := aey h0
    have HN := akw (show iB a=⟨!a.neg,a.m,a.e⟩by unfold iB;simp[h0]);have HC := akw (λw (h : Sl w A c (gK a.m)) => I4 A c (gK a.m) w h aD);clear h0;have hE := (iu.alloc w (.cells #[.bool a.neg,.slice A ((gK a.m).length) c,.int .i64 a.e] 39)).trans (iu.alloc (w.alloc (.cells #[.bool a.neg,.slice A ((gK a.m).length) c,.int .i64 a.e] 39)) (.cells #[.bool false,.slice none 0 0,.int .i64 0] 39));have b1 := (ju.rF (W := w) (g := w.heap.size) aJ a.neg A ((gK a.m).length) c a.e).alloc (.cells #[.bool false,.slice none 0 0,.int .i64 0] 39);have b2 := ju.rF (W := (w.alloc (.cells #[.bool a.neg,.slice A ((gK a.m).length) c,.int .i64 a.e] 39))) (g := w.heap.size+1) aJ false none 0 0 0;replace hs := hs.below hE;go_enter func166,ntmps166;go_wp2_with fail
    (with_reducible refine(HV.out _ hs).mono ?_)
    rintro r w1 ⟨rfl,hb⟩;replace hE := hE.trans hb;replace hs := hs.below hb;replace b1 := b1.ext hb;replace b2 := b2.ext hb;clear hb;have IA := b1.c0;have IB := b1.c1;have IC := b1.c2;clear IA IB IC;have IA := b1.c0;have IB := b1.c1;have IC := b1.c2;go_wp2_with fail;clear IA IB IC;replace hs := hs.drew;replace b1 := b1.drew;replace b2 := b2.drew;replace hE := hE.trans (iu.drew _);go_region_held3 (λw' => w'.cell? ⟨w.heap.size,0,none⟩=some (.bool a.neg)/\w'.cell? ⟨w.heap.size,1,none⟩=some (.slice A ((gK a.m).length) c)/\w'.cell? ⟨w.heap.size,2,none⟩=some (.int .i64 a.e))
      (first|with_reducible exact⟨(b1).c0,(b1).c1,(b1).c2⟩|with_reducible exact⟨(b1.ext om).c0,(b1.ext om).c1,(b1.ext om).c2⟩|with_reducible exact⟨((b1.ext om).JF (g' := w.heap.size+1) aD _ _ _).c0,((b1.ext om).JF (g' := w.heap.size+1) aD _ _ _).c1,((b1.ext om).JF (g' := w.heap.size+1) aD _ _ _).c2⟩)
      (first
        | (go_at_call 244
           (with_reducible refine(HC.out _ hs).mono ?_)
           rintro r wx0 ⟨A_h4,c_h4,rfl,h4,om⟩;have bz := b2.ext om;have z0 := bz.c0;have z1 := bz.c1;have z2 := bz.c2;have y0 := bz.fr 0;have y1 := bz.fr 1;have y2 := bz.fr 2))
    replace hE := hE.trans om;replace hs := hs.below om;replace b1 := b1.ext om;replace b2 := b2.ext om;go_wp2;rw[HN.out];exact rT (d := ⟨!a.neg,a.m,a.e⟩) rfl rfl rfl (bz.set _ _ _ _ _) rfl (bz.sM h4 _ _ _ _ _) (ju.sc hE aD _ _ _ _ _)
open Pu
section
variable {f:FuncId} {L M:List Nat} {jQ:E}
def D9(hk:iw L)(hc:∀ (vs:Array Value) (w:World),(callFunc f vs).run prog w = .ok (.enter f vs) w)
 {R:Option Addr->Nat->World->Ending->World->Prop} (H:∀ A c w,Sl w A c L->Tb w->Calls prog f #[.slice A L.length c] w (R A c w))
 (hR:∀ (A:Option Addr) (c:Nat) (B:Nat->Prop) w e w',Sl w A c L->(∀ b,B b->b<w.heap.size/\oe w b)->R A c w e w'->∃ v,e = .returned v/\Below w.heap.size w w'/\iz B (λ_=>True) w' jQ v):gJ f [gO L] jQ:=by
 refine⟨hc,λw B vs hK hB hr=>?_⟩;obtain⟨v1,vs,rfl,h1,hr⟩:=hr.lV;obtain rfl:=hr.ph;obtain⟨A,c,rfl,s1⟩:=uJ hk h1;exact(H A c w s1 hK).mono λe w' h=>hR A c B w e w' s1 hB h
def G0(hk:iw L){n:Int}(hc:∀ (vs:Array Value) (w:World),(callFunc f vs).run prog w = .ok (.enter f vs) w)
 {R:Option Addr->Nat->World->Ending->World->Prop} (H:∀ A c w,Sl w A c L->Tb w->Calls prog f #[.slice A L.length c,.int .i64 n] w (R A c w))
 (hR:∀ (A:Option Addr) (c:Nat) (B:Nat->Prop) w e w',Sl w A c L->(∀ b,B b->b<w.heap.size/\oe w b)->R A c w e w'->∃ v,e = .returned v/\Below w.heap.size w w'/\iz B (λ_=>True) w' jQ v):gJ f [gO L,iP n] jQ:=by
 refine⟨hc,λw B vs hK hB hr=>?_⟩;obtain⟨v1,vs,rfl,h1,hr⟩:=hr.lV;obtain⟨v2,vs,rfl,h2,hr⟩:=hr.lV;obtain rfl:=hr.ph;obtain rfl:=iz.kE h2;obtain⟨A,c,rfl,s1⟩:=uJ hk h1;exact(H A c w s1 hK).mono λe w' h=>hR A c B w e w' s1 hB h
def Al(hk:iw L)(hm:iw M)(hc:∀ (vs:Array Value) (w:World),(callFunc f vs).run prog w = .ok (.enter f vs) w)
 {R:World->Ending->World->Prop} (H:∀ A c B d w,Sl w A c L->Sl w B d M->Tb w->Calls prog f #[.slice A L.length c,.slice B M.length d] w (R w))
 (hR:∀ (B:Nat->Prop) w e w',(∀ b,B b->b<w.heap.size/\oe w b)->R w e w'->∃ v,e = .returned v/\Below w.heap.size w w'/\iz B (λ_=>True) w' jQ v):gJ f [gO L,gO M] jQ:=by
 refine⟨hc,λw B vs hK hB hr=>?_⟩;obtain⟨v1,vs,rfl,h1,hr⟩:=hr.lV;obtain⟨v2,vs,rfl,h2,hr⟩:=hr.lV;obtain rfl:=hr.ph;obtain⟨A,c,rfl,s1⟩:=uJ hk h1;obtain⟨A',d,rfl,s2⟩:=uJ hm h2;exact(H A c A' d w s1 s2 hK).mono λe w' h=>hR B w e w' hB h
end
def Cf{L:List Nat}{n:Int}(B:Nat->Prop)(w:World)(e:Ending)(w':World)(hB:∀ b,B b->b<w.heap.size/\oe w b)(h:AV w L n e w'):∃ v,e = .returned v/\Below w.heap.size w w'/\iz B (λ_=>True) w' (.hH [gO L,iP n]) v:=
 let⟨_,_,h1,h2,h3⟩:=h
 ⟨_,h1,h3,kj.hH (.cons (wJ hB h3 h2) (.cons (.v _) (.nil _ _ _)))⟩
def rl{L:List Nat}(B:Nat->Prop)(w:World)(e:Ending)(w':World)(hB:∀ b,B b->b<w.heap.size/\oe w b)(h:rN w L e w'):∃ v,e = .returned v/\Below w.heap.size w w'/\iz B (λ_=>True) w' (gO L) v:=
 let⟨_,_,h1,h2,h3⟩:=h
 ⟨_,h1,h3,wJ hB h3 h2⟩
def xy(L:List Nat)(hk:iw L):gJ 274 [gO L] (gO (gT L)):=
 D9 hk call274 (λA c w h _=>tu A c L w h) λA c B w e w' h hB ⟨h1,h2⟩=>by subst h2;exact⟨_,h1,Below.refl _ _,wJ hB (Below.refl _ _) h.sN⟩
def adt(L:List Nat)(hk:iw L)(hl:(gT L).length<=256):gJ 272 [gO L] (.hH [gO (gT L),iP 0]):=
 D9 hk call272 (λA c w h _=>DX A c L w h hl) λA c B w e w' h hB r=>Cf B w e w' hB r
def adn(L:List Nat)(hk:iw L)(hl:L.length<=100000):gJ 294 [gO L] (iP (gU (val L))):=
 D9 hk call294 (λA c w h _=>SE A c L w h aD) λA c B w e w' h hB ⟨h1,h2⟩=>by subst h2;exact⟨_,h1,Below.refl _ _,.v _⟩
def DW(L M:List Nat)(hk:iw L)(hm:iw M)(hl:L.length<=100000)(nd:M.length<=100000):gJ 220 [gO L,gO M] (iP (kv (val L) (val M))):=
 Al hk hm call220 (λA c B d w h k _=>GK A B c d L M w h k aD aD) rv
def adw(m n:Nat)(hl:(gK m).length<=256)(hn:n<=65536)(hf:(gK (m*2^n)).length<=256):gJ 219 [gO (gK m),iP (n:Int)] (.hH [gO (gK (m*2^n)),iP 0]):=
 G0 (kO m) call219 (λA c w h _=>Li A c (gK m) n w h hl hn (by rw[jR];exact hf)) λA c B w e w' h hB r=>by rw[jR]at r;exact Cf B w e w' hB r
def SN(m n:Nat)(hl:(gK m).length<=256)(hn:n<=65536):gJ 301 [gO (gK m),iP (n:Int)] (.hH [gO (gK (m/2^n)),iP 0]):=
 G0 (kO m) call301 (λA c w h _=>SM A c (gK m) n w h hl hn) λA c B w e w' h hB r=>by rw[jR]at r;exact Cf B w e w' hB r
def Lg(m n:Nat)(h1:(gK m).length<=256)(h2:(gK n).length<=256)(hf:(gK (m+n)).length<=256):gJ 321 [gO (gK m),gO (gK n)] (.hH [gO (gK (m+n)),iP 0]):=by
 refine Al (kO m) (kO n) call321 (λA c B d w h k _=>adm A B c d (gK m) (gK n) w h k h1 h2 (by rw[jR,jR];exact hf)) ?_;rw[jR,jR];exact Cf
def Lj(m n:Nat)(h1:(gK m).length<=256)(h2:(gK n).length<=256)(hf:n<=m):gJ 322 [gO (gK m),gO (gK n)] (.hH [gO (gK (m-n)),iP 0]):=by
 refine Al (kO m) (kO n) call322 (λA c B d w h k _=>ady A B c d (gK m) (gK n) w h k h1 h2 (by rw[jR,jR];exact hf)) ?_;rw[jR,jR];exact Cf
def uz(m:Nat)(hl:(gK m).length<=100000):gJ 294 [gO (gK m)] (iP (gU m)):=by
 have:=adn (gK m) (kO m) hl;rwa[jR]at this
def Lh(m n:Nat)(hl:(gK m).length<=100000)(nd:(gK n).length<=100000):gJ 220 [gO (gK m),gO (gK n)] (iP (kv m n)):=by
 have:=DW (gK m) (gK n) (kO m) (kO n) hl nd;rwa[jR,jR]at this
def yb(a:Dy)(ha:a.gQ):gJ 166 [gM a] (gM (iB a)):=xE call166 (λA c w h _=>Zi a A c w h ha) rd
def ua(a:Dy)(ha:a.gQ):gJ 216 [gM a] (iP a.jj):=xE call216 (λA c w h _=>Zk a A c w h ha) rv
def CO(s:Bool)(m:Nat)(e:Int)(hl:(gK m).length<=256)(lh:-32768<=e)(kF:e<=32768)(hd:pe (canon s m e)):gJ 362 [bP s,gO (gK m),iP e] (.hH [gM (canon s m e),iP 0]):=by
 refine⟨call362,λw B vs hK hB hr=>?_⟩;obtain⟨v1,vs,rfl,h1,hr⟩:=hr.lV;obtain⟨v2,vs,rfl,h2,hr⟩:=hr.lV;obtain⟨v3,vs,rfl,h3,hr⟩:=hr.lV;obtain rfl:=hr.ph;obtain rfl:=iz.kE h1;obtain rfl:=iz.kE h3;obtain⟨A,c,rfl,s1⟩:=uJ (kO m) h2;have:=ac9 s A c (gK m) e w s1 hl lh kF hK (by rw[jR];exact hd);rw[jR]at this;exact this.mono λe w' h=>UP B w e w' hB h
def uC:E.le (.sl false 1 1 λi j=>[E.v (.int .u32 1)].getD (i*1+j) (.v (.bool false))) (gO (gK 1)):=by
 have e1:gK 1=[1]:=by rw[xx aF,show 1/4294967296=0 by decide,nt]
 rw[e1];refine .sl λi j hi hj=>?_
 obtain rfl:i=0:= aD ;obtain rfl:j=0:= aD ;exact⟨.refl _,rfl⟩
def iy(d:Dy):List E:=[bP d.neg,gO (gK d.m),iP d.e]
def nL(l:List Dy):E:=.sl true l.length 3 λi j=>(iy (l.getD i ix)).getD j .any
def Zm(a:Dy):E.le (.sl true 1 3 λi j=>[bP a.neg,gO (gK a.m),iP a.e].getD (i*3+j) (.v (.bool false))) (nL [a]):=.sl λi j hi hj=>by
 obtain rfl:i=0:= aD ;rcases j with _|_|_|j
 .exact ⟨.refl _,rfl⟩
 .exact ⟨.refl _,rfl⟩
 .exact ⟨.refl _,rfl⟩
 .omega
def uT(a b:Dy):E.le (.sl true 2 3 λi j=>[bP a.neg,gO (gK a.m),iP a.e,bP b.neg,gO (gK b.m),iP b.e].getD (i*3+j) (.v (.bool false))) (nL [a,b]):=.sl λi j hi hj=>by
 obtain rfl|rfl:i=0\/i=1:= aD 
 all_goals
  rcases j with _|_|_|j
  .exact ⟨.refl _,rfl⟩
  .exact ⟨.refl _,rfl⟩
  .exact ⟨.refl _,rfl⟩
  .omega
def mv{n:Nat}(h:n≠0):((n:Int)==0)=false:= aR 
def qk{n:Nat}(h:n=0):((n:Int)==0)=true:=by subst h;rfl
def yJ{n:Nat}(h:n=0):((n:Int) != 0)=false:=by subst h;rfl
def BO{n:Nat}(h:n≠0):((n:Int) != 0)=true:= aR 
def pY{m:Nat}:(gK m).length=0↔m=0:=by rw[aj9,RZ]
def pv{m:Nat}(h:m≠0):(gK m).length≠0:=λq=>h (pY.1 q)
def Fp.Dy.gQ.gK{d:Dy}(h:d.gQ):(gK d.m).length<=256:=by have:=h.len;omega
end Go.Proofs.YtkjkcjhacddojaaGreatDoor
namespace Go.Proofs.YtkjkcjhacddojaaGreatDoor.Fp
structure Iv where
 lo:Dy
 hi:Dy
 all:Bool
def gL:Iv:=⟨ix,ix,true⟩
def Iv.gQ(x:Iv):Prop:=(x.all=true/\x.lo=ix/\x.hi=ix)\/(x.all=false/\x.lo.gQ/\x.hi.gQ/\jh x.lo x.hi<=0)
def nj:gL.gQ:=.inl ⟨rfl,rfl,rfl⟩
def mj(lo:Dy)(e:Int)(hi:Dy)(f:Int):Iv:=if e≠0\/f≠0 then gL else⟨lo,hi,false⟩
def kG(a b:Dy):Dy:=canon (a.neg != b.neg) (a.m*b.m) (a.e+b.e)
def oC(x:Iv):Iv:=if x.all then gL else⟨iB x.hi,iB x.lo,false⟩
def jx(x y:Iv)(p:Nat):Iv:=
 if x.all||y.all then gL else mj (ji (iM x.lo y.lo) p false) (jl (iM x.lo y.lo) p false) (ji (iM x.hi y.hi) p true) (jl (iM x.hi y.hi) p true)
def je(x y:Iv)(p:Nat):Iv:=jx x (oC y) p
def Yn{x y:Int}:tW x y<=0↔x<=y:=by
 unfold tW;split
 .constructor<;>intro<;>omega
 .split<;>constructor<;>intro<;>omega
def nH{a b:Dy}{k:Int}(ha:mO a k)(hb:mO b k):jh a b<=0↔a.num k<=b.num k:=by rw[zt ha hb,Yn]
def le_trans{a b c:Dy}(h1:jh a b<=0)(h2:jh b c<=0):jh a c<=0:=by
 obtain⟨k,ka,kb,kc⟩:∃ k:Int,k<=a.e/\k<=b.e/\k<=c.e:=⟨min a.e (min b.e c.e),aD,aD,aD⟩
 rw[nH (.inr ka) (.inr kb)]at h1;rw[nH (.inr kb) (.inr kc)]at h2;rw[nH (.inr ka) (.inr kc)];omega
def yD(a:Dy):jh a a<=0:=by rw[nH (k:=a.e) (.inr (b8 _)) (.inr (b8 _))];exact b8 _
def acJ(a b:Dy):jh a b<=0\/jh b a<=0:=by
 obtain⟨k,ka,kb⟩:∃ k:Int,k<=a.e/\k<=b.e:=⟨min a.e b.e,aD,aD⟩
 rw[nH (.inr ka) (.inr kb),nH (.inr kb) (.inr ka)];omega
def adJ{a b:Dy}(h:jh a b<=0):jh (iB b) (iB a)<=0:=by
 obtain⟨k,ka,kb⟩:∃ k:Int,k<=a.e/\k<=b.e:=⟨min a.e b.e,aD,aD⟩
 rw[nH (.inr ka) (.inr kb)]at h;rw[nH (k:=k) (CD (.inr kb)) (CD (.inr ka)),D3,D3];omega
def ah8{a b c d:Dy}(h1:jh a b<=0)(h2:jh c d<=0):jh (iM a c) (iM b d)<=0:=by
 obtain⟨k,ka,kb,kc,kd⟩:∃ k:Int,k<=a.e/\k<=b.e/\k<=c.e/\k<=d.e:=⟨min (min a.e b.e) (min c.e d.e),aD,aD,aD,aD⟩
 rw[nH (.inr ka) (.inr kb)]at h1;rw[nH (.inr kc) (.inr kd)]at h2;rw[nH (k:=k) (IK (.inr ka) (.inr kc)) (IK (.inr kb) (.inr kd)),Mw (.inr ka) (.inr kc),Mw (.inr kb) (.inr kd)];omega
def Fg(m:Nat)(e:Int)(p:Nat):
 ks m e false p false*2^iO m e p<=m/\m<=ks m e false p true*2^iO m e p:=by
 have h:=ck m (2^iO m e p);have hr:=bA m (bu (n:=iO m e p) (aF:0<2));unfold ks;simp only[b9,false_and,bF,bK,false_or,true_and];rw[bB];generalize m/2^iO m e p=q at *
 generalize 2^iO m e p=P at *
 refine⟨aD,?_⟩;rw[bT,bB q];split
 .omega
 .omega
def CH{s:Bool}{m n:Nat}{e f K:Int}(h1:K<=e)(h2:K<=f)(h:m*2^(e-K).toNat<=n*2^(f-K).toNat):
 (s=false->jh (canon s m e) (canon s n f)<=0)/\(s=true->jh (canon s n f) (canon s m e)<=0):=by
 constructor
 .rintro rfl;rw[nH (xU h1) (xU h2),S3 h1,S3 h2]
  exact_mod_cast h
 .rintro rfl;rw[nH (xU h2) (xU h1),Ai h1,Ai h2];simp only[bI];omega
def Ol(neg:Bool)(m:Nat)(e:Int)(p:Nat)(up:Bool)(he:jD neg m e false p up=0)(_hp:1<=p):
 (up=true->jh (canon neg m e) (jK neg m e false p up)<=0)/\(up=false->jh (jK neg m e false p up) (canon neg m e)<=0):=by
 rw[CM]at he;obtain⟨c1,c2⟩:=Fg m e p;have e1:(e-e).toNat=0:= aD ;have e2:(e+(iO m e p:Int)-e).toNat=iO m e p:= aD ;have hk:e<=e+(iO m e p:Int):= aD ;have A:=λs:Bool=>CH (s:=s) (m:=ks m e false p false) (n:=m) (e:=e+iO m e p) (f:=e) (K:=e) hk (b8 _) (by rw[e1,e2];simpa using c1)
 have B:=λs:Bool=>CH (s:=s) (m:=m) (n:=ks m e false p true) (e:=e) (f:=e+iO m e p) (K:=e) (b8 _) hk (by rw[e1,e2];simpa using c2)
 unfold jK;by_cases ho:lr m e false p (neg != up)=true
 .have hn:¬(neg != up)=true:=λh=>he ⟨ho,h⟩
  rw[bj ho,bh hn];have QP:neg=up:=by cases neg<;>cases up<;>simp at hn ⊢
  have jO:(neg != up)=false:=by rw[QP];simp
  rw[jO]at ho;unfold lr at ho;simp only[bQ,cF]at ho;obtain⟨o1,o2⟩:=ho;have hq:=qK o1;have oo:=mZ o1;obtain⟨K,k1,k2⟩:∃ K:Int,K<=e/\K<=16384-p:=⟨min e (16384-p),aD,aD⟩
  have C:(2^p-1)*2^((16384:Int)-p-K).toNat<=m*2^(e-K).toNat:=by
   have h1:2^(gU (ks m e false p false)-1)*2^iO m e p<=m:=bM (bL _ hq) c1;have h2:=bL (2^(e-K).toNat) h1;rw[<-bq,<-bq]at h2;refine bM (bL _ (dP _ _)) (bM ?_ h2);rw[<-bq];exact bG aF aD 
  have D:=CH (s:=neg) k2 k1 C;subst QP;cases neg
  .exact ⟨λh=>absurd h aF,λ_=>D.1 rfl⟩
  .exact ⟨λ_=>D.2 rfl,λh=>absurd h aF⟩
 .rw [bh ho];cases neg<;>cases up
  .exact ⟨λh=>absurd h aF,λ_=>(A false).1 rfl⟩
  .exact ⟨λ_=>(B false).1 rfl,λh=>absurd h aF⟩
  .exact ⟨λh=>absurd h aF,λ_=>(B true).2 rfl⟩
  .exact ⟨λ_=>(A true).2 rfl,λh=>absurd h aF⟩
def Vh{d:Dy}(hd:d.lA)(p:Nat)(hp:1<=p):
 (jl d p true=0->jh d (ji d p true)<=0)/\(jl d p false=0->jh (ji d p false) d<=0):=by
 have h:=hd.E7;constructor
 .intro he;have:=(Ol d.neg d.m d.e p true he hp).1 rfl;rwa[h]at this
 .intro he;have:=(Ol d.neg d.m d.e p false he hp).2 rfl;rwa[h]at this
def pU{x y:Iv}(hx:x.gQ)(hy:y.gQ){p:Nat}(hp:1<=p)(gS:p<=4096):(jx x y p).gQ:=by
 unfold jx;rcases hx with⟨h,_⟩|⟨h1,h2,h3,h4⟩
 .rw [h];exact nj
 .rcases hy with⟨h,_⟩|⟨k1,k2,k3,k4⟩
  .rw [h,h1];exact nj
  .rw [h1,k1];simp only[Bool.or_self,b9,bF];unfold mj;by_cases he:jl (iM x.lo y.lo) p false≠0\/jl (iM x.hi y.hi) p true≠0
   .rw [bj he];exact nj
   .rw [bh he];have e1:jl (iM x.lo y.lo) p false=0:= aD ;have e2:jl (iM x.hi y.hi) p true=0:= aD ;refine .inr ⟨rfl,lY _ _ _ _ _ _ hp gS,lY _ _ _ _ _ _ hp gS,?_⟩;exact le_trans ((Vh (E8 h2.canon k2.canon) p hp).2 e1) (le_trans (ah8 h4 k4) ((Vh (E8 h3.canon k3.canon) p hp).1 e2))
def rZ{x:Iv}(hx:x.gQ):(oC x).gQ:=by
 unfold oC;rcases hx with⟨h,_⟩|⟨h1,h2,h3,h4⟩
 .rw [bj h];exact nj
 .rw [h1];exact .inr ⟨rfl,pL h3,pL h2,adJ h4⟩
def iZ(a b:Dy):Dy:=if jh b a<0 then b else a
def iT(a b:Dy):Dy:=if 0<jh b a then b else a
def DN(a b:Dy):jh (iZ a b) a<=0:=by
 unfold iZ;split
 .omega
 .exact yD a
def Su(a b:Dy):jh (iZ a b) b<=0:=by
 unfold iZ;split
 .exact yD b
 .rcases acJ a b with h|h
  .exact h
  .have h0:jh b a=0:= aD ;obtain⟨k,ka,kb⟩:∃ k:Int,k<=a.e/\k<=b.e:=⟨min a.e b.e,aD,aD⟩
   rw[zt (k:=k) (.inr kb) (.inr ka)]at h0;rw[nH (.inr ka) (.inr kb)];unfold tW at h0;split at h0
   .omega
   .split at h0<;>omega
def wS(a b:Dy):jh a b = -jh b a:=by
 obtain⟨k,ka,kb⟩:∃ k:Int,k<=a.e/\k<=b.e:=⟨min a.e b.e,aD,aD⟩
 rw[zt (k:=k) (.inr ka) (.inr kb),zt (k:=k) (.inr kb) (.inr ka)];unfold tW;split<;>split<;>(try split)<;>omega
def BM(a b:Dy):jh a (iT a b)<=0:=by
 unfold iT;split
 .rw [wS];omega
 .exact yD a
def adg(a b:Dy):jh b (iT a b)<=0:=by
 unfold iT;split
 .exact yD b
 .omega
def qj{a b:Dy}(ha:a.gQ)(hb:b.gQ):(iZ a b).gQ:=by unfold iZ;split;exact hb;exact ha
def py{a b:Dy}(ha:a.gQ)(hb:b.gQ):(iT a b).gQ:=by unfold iT;split;exact hb;exact ha
def lK(D : Dy->Dy->Bool->Dy)(E : Dy->Dy->Bool->Int)(x y : Iv) : Iv:=
 if(E x.lo y.lo false=0/\E x.lo y.lo true=0)/\(E x.lo y.hi false=0/\E x.lo y.hi true=0)/\(E x.hi y.lo false=0/\E x.hi y.lo true=0)/\(E x.hi y.hi false=0/\E x.hi y.hi true=0)then
  ⟨iZ (iZ (iZ (D x.lo y.lo false) (D x.lo y.hi false)) (D x.hi y.lo false)) (D x.hi y.hi false),
   iT (iT (iT (D x.lo y.lo true) (D x.lo y.hi true)) (D x.hi y.lo true)) (D x.hi y.hi true),false⟩
 else gL
def PA{D:Dy->Dy->Bool->Dy}{E:Dy->Dy->Bool->Int}{x y:Iv}(hv:∀ a b up,(D a b up).gQ)
 (hle:E x.lo y.lo false=0->E x.lo y.lo true=0->jh (D x.lo y.lo false) (D x.lo y.lo true)<=0):(lK D E x y).gQ:=by
 unfold lK;split
 .rename_i h;refine .inr ⟨rfl,qj (qj (qj (hv _ _ _) (hv _ _ _)) (hv _ _ _)) (hv _ _ _),py (py (py (hv _ _ _) (hv _ _ _)) (hv _ _ _)) (hv _ _ _),?_⟩;refine le_trans (DN _ _) (le_trans (DN _ _) (le_trans (DN _ _) (le_trans (hle h.1.1 h.1.2) ?_)));exact le_trans (BM _ _) (le_trans (BM _ _) (BM _ _))
 .exact nj
def ia(x y:Iv)(p:Nat):Iv:=
 if x.all||y.all then gL else lK (λa b up=>ji (kG a b) p up) (λa b up=>jl (kG a b) p up) x y
def ml(x y:Iv){p:Nat}(hp:1<=p)(gS:p<=4096):(ia x y p).gQ:=by
 unfold ia;split
 .exact nj
 .exact PA (λ_ _ _=>lY _ _ _ _ _ _ hp gS) (λh1 h2=>Oi _ _ _ _ _ h1 h2)
def j8(a b:Dy)(p:Nat)(g:Nat):Nat:=p+g+gU b.m-gU a.m
def jU(a b:Dy)(p:Nat)(up:Bool):Dy:=
 if a.m=0 then ix else jK (a.neg != b.neg) (a.m*2^j8 a b p 2/b.m) (a.e-b.e-j8 a b p 2) (decide (a.m*2^j8 a b p 2%b.m≠0)) p up
def mH(a b:Dy)(p:Nat)(up:Bool):Int:=
 if a.m=0 then 0 else jD (a.neg != b.neg) (a.m*2^j8 a b p 2/b.m) (a.e-b.e-j8 a b p 2) (decide (a.m*2^j8 a b p 2%b.m≠0)) p up
def Jf{a b:Dy}(a0:a.m≠0)(b0:b.m≠0)(p g:Nat)(hg:2<=g):p<gU (a.m*2^j8 a b p g/b.m):=by
 have h1:=qK a0;have h2:=px b.m;have ha:=mZ a0;have h3:2^p<=a.m*2^j8 a b p g/b.m:=by
  rw[de aD];refine bM (cA _ (dv h2)) (bM ?_ (bL _ h1));rw[<-bq,<-bq];exact bG aF (by unfold j8;omega)
 exact wh.2 h3
def Y1{a b:Dy}(a0:a.m≠0)(b0:b.m≠0)(p:Nat)(up:Bool):
 jK (a.neg != b.neg) (a.m*2^j8 a b p 3/b.m) (a.e-j8 a b p 3-b.e) (decide (a.m*2^j8 a b p 3%b.m≠0)) p up=jU a b p up /\
 jD (a.neg != b.neg) (a.m*2^j8 a b p 3/b.m) (a.e-j8 a b p 3-b.e) (decide (a.m*2^j8 a b p 3%b.m≠0)) p up=mH a b p up:=by
 obtain⟨d,hd⟩:∃ d,j8 a b p 3=j8 a b p 2+d:=⟨j8 a b p 3-j8 a b p 2,by unfold j8;omega⟩
 have hb:=Jf a0 b0 p 2 aF;unfold jU mH;rw[bh a0,bh a0,hd];generalize j8 a b p 2=k at *
 have hB:0<b.m:= aD ;have hP:=bu (n:=d) (aF:0<2);have e1:a.m*2^(k+d)/b.m/2^d=a.m*2^k/b.m:=by
  rw[cJ,bq,<-bw,Nat.mul_div_mul_right _ _ hP]
 have e2:(decide (a.m*2^(k+d)%b.m≠0)||decide (a.m*2^(k+d)/b.m%2^d≠0))=decide (a.m*2^k%b.m≠0):=by
  have h1:a.m*2^(k+d)%(b.m*2^d)=a.m*2^k%b.m*2^d:=by rw[bq,<-bw,Nat.mul_mod_mul_right]
  have h2:a.m*2^(k+d)%(b.m*2^d)=a.m*2^(k+d)%b.m+b.m*(a.m*2^(k+d)/b.m%2^d):=fP;rw[h1]at h2;rw[dn];simp only[dJ,cF];constructor
  .intro h h0;rw[h0,cB]at h2;rcases h with h|h
   .omega
   .have:=eP hB (ep h);omega
  .intro h;apply bY;intro hn;have n1:a.m*2^(k+d)%b.m=0:=by
    apply bY;intro h';exact hn (.inl h')
   have n2:a.m*2^(k+d)/b.m%2^d=0:=by
    apply bY;intro h';exact hn (.inr h')
   rw[n1,n2,cH]at h2;have:=eP (ep h) hP;omega
 have h:=Ff (N:=a.m*2^(k+d)/b.m) (E:=a.e-((k+d:Nat):Int)-b.e) (more:=decide (a.m*2^(k+d)%b.m≠0)) (d:=d) (p:=p) (a.neg != b.neg) up (by rw[e1];exact hb);rw[e1,e2,(aD:a.e-((k+d:Nat):Int)-b.e+(d:Int)=a.e-b.e-(k:Int))]at h;exact⟨h.1.symm,h.2.symm⟩
def lR(x:Iv):Int:=if x.all then 0 else if 0<x.lo.jc then 1 else if x.hi.jc<0 then -1 else 0
def ik(x y:Iv)(p:Nat):Iv:=
 if x.all||y.all||decide (lR y=0)then gL else lK (λa b up=>jU a b p up) (λa b up=>mH a b p up) x y
def lT(x y:Iv){p:Nat}(hp:1<=p)(gS:p<=4096):(ik x y p).gQ:=by
 unfold ik;split
 .exact nj
 .refine PA (λa b up=>?_) (λh1 h2=>?_)
  .unfold jU;split
   .exact re
   .exact lY _ _ _ _ _ _ hp gS
  .unfold jU mH at *
   split
   .exact yD _
   .rename_i h;rw[bh h]at h1 h2;exact Oi _ _ _ _ _ h1 h2
def lg(d:Dy):Dy:=⟨false,d.m,d.e⟩
def rh{d:Dy}(h:d.gQ):(lg d).gQ:=by
 refine⟨?_,h.range⟩;rcases h.canon with⟨h1,_,h3⟩|h1
 .exact .inl ⟨h1,rfl,h3⟩
 .exact .inr h1
def WV(d:Dy)(k:Int):(lg d).num k=(d.jP k:Int):=by unfold Dy.num lg Dy.jP;simp
def ku(x:Iv):Dy:=iT (lg x.lo) (lg x.hi)
def mW(x:Iv):Dy:=if lR x=0 then ix else iZ (lg x.lo) (lg x.hi)
def ib(x:Iv):Iv:=if x.all then gL else⟨mW x,ku x,false⟩
def gZ(d:Dy):Iv:=⟨d,d,false⟩
def pO{d:Dy}(h:d.gQ):(gZ d).gQ:=.inr ⟨rfl,h,h,yD d⟩
def pJ{x:Iv}(h1:x.lo.gQ)(h2:x.hi.gQ):(ku x).gQ:=py (rh h1) (rh h2)
def qQ{x:Iv}(h:x.gQ):(ib x).gQ:=by
 unfold ib;rcases h with⟨h,_⟩|⟨h,h1,h2,_⟩
 .rw [h];exact nj
 .rw [h];have v1:=rh h1;have v2:=rh h2;refine .inr ⟨rfl,?_,pJ h1 h2,?_⟩
  .show (mW x).gQ;unfold mW;split
   .exact re
   .exact qj v1 v2
  .show jh (mW x) (ku x)<=0;unfold mW;split
   .refine le_trans (b:=lg x.lo) ?_ (BM _ _);rw[nH (a:=ix) (b:=lg x.lo) (k:=x.lo.e) (.inl rfl) (.inr (b8 _)),uB rfl,WV];omega
   .exact le_trans (DN _ _) (BM _ _)
structure iY(m:List (List Iv))(n k:Nat):Prop where
 iH:m.length=n
 row:∀ r,r ∈ m->r.length=k
 ok:∀ r,r ∈ m->∀ x,x ∈ r->x.gQ
 n1:1<=n
 n8:n<=8
 k1:1<=k
 k8:k<=8
def yv(n:Nat):List (List Iv):=(List.range n).map λi=>(List.range n).map λj=>gZ (if i=j then⟨false,1,0⟩else ix)
def Fo(a b:List Iv)(p:Nat):Iv:=
 match a,b with
 |x::a,y::b=>(a.zip b).foldl (λs q=>jx s (ia q.1 q.2 p) p) (ia x y p)
 |_,_=>gL
def Fc(m:List (List Iv))(j:Nat):List Iv:=m.map λr=>r.getD j gL
def kK(a b:List (List Iv))(p:Nat):List (List Iv):=a.map λr=>(List.range (b.headD []).length).map λj=>Fo r (Fc b j) p
def tN(a b:List (List Iv))(p:Nat):List (List Iv):=List.zipWith (λr s=>List.zipWith (λx y=>jx x y p) r s) a b
def lM(a:List (List Iv))(x:Iv)(p:Nat):List (List Iv):=a.map λr=>r.map λy=>ia x y p
def Y8{a b:List Iv}{p:Nat}(hp:1<=p)(gS:p<=4096):(Fo a b p).gQ:=by
 unfold Fo
 match a,b with
 | [],[]=>exact nj
 | [],_::_=>exact nj
 |_::_,[]=>exact nj
 |x::a,y::b=>
  simp only;have:∀ (l:List (Iv×Iv)) (s:Iv),s.gQ->(l.foldl (λs q=>jx s (ia q.1 q.2 p) p) s).gQ:=by
   intro l
   induction l with
   |nil=>intro s h;exact h
   |cons q l ih=>intro s h;exact ih _ (pU h (ml _ _ hp gS) hp gS)
  exact this _ _ (ml _ _ hp gS)
def jI(n:Int):Dy:=lE n 0
def gY(n:Int):Iv:=gZ (jI n)
def Ch(r:List Iv)(p:Nat):Option Dy:=
 r.foldl (λs x=>s.bind λs=>if x.all then none else if jl (iM s (ku x)) p true≠0 then none else some (ji (iM s (ku x)) p true)) (some ix)
def vy(m:List (List Iv))(p:Nat):Option Dy:=
 m.foldl (λs r=>s.bind λs=>(Ch r p).map λn=>if 0<jh n s then n else s) (some ix)
def jJ(u:Iv)(p:Nat):Nat->Iv
 | 0=>gY 1
 |j+1=>ia (jJ u p j) (ik u (gY (j+1:Nat)) p) p
def q8(m:List (List Iv))(h:Iv)(k p:Nat):Option Iv:=
 (vy m p).bind λn=>
  let u:=ia (ib h) (gZ n) p
  if u.all||decide (0<=jh u.hi (jI (k+2:Nat)))then none
  else
   let e:=ik (jJ u p (k+1)) (je (gY 1) (ik u (gY (k+2:Nat)) p) p) p
   if e.all then none else some ⟨iB e.hi,e.hi,false⟩
def jX(m:List (List Iv))(h:Iv)(p:Nat):Nat->List (List Iv)
 | 0=>yv m.length
 |j+1=>lM (kK (jX m h p j) m p) (ik h (gY (j+1:Nat)) p) p
def iQ(m:List (List Iv))(h:Iv)(p:Nat):Nat->List (List Iv)
 | 0=>yv m.length
 |j+1=>tN (iQ m h p j) (jX m h p (j+1)) p
def oX(m:List (List Iv))(h:Iv)(k p:Nat):Option (List (List Iv)):=
 (q8 m h k p).bind λe=>
  let out:=(iQ m h p k).map λr=>r.map λx=>jx x e p
  if out.any λr=>r.any λx=>x.all then none else some out
end Go.Proofs.YtkjkcjhacddojaaGreatDoor.Fp
namespace Go.Proofs.YtkjkcjhacddojaaGreatDoor
open Go.RowKit Fp Pu
def iA(x:Iv):List E:=[bP x.lo.neg,gO (gK x.lo.m),iP x.lo.e,bP x.hi.neg,gO (gK x.hi.m),iP x.hi.e,bP x.all]
def gR(x:Iv):E:=.agg (iA x)
def ic(l:List Iv):E:=.sl true l.length 7 λi j=>(iA (l.getD i gL)).getD j .any
def gV(m:List (List Iv)):E:=.sl true m.length 1 λi _=>ic (m.getD i [])
def yy(x y:Iv):Bool:=y.all||(!x.all&&(decide (jh y.lo x.lo<=0)&&decide (jh x.hi y.hi<=0)))
def xz:E.le (.v (.slice none 0 0)) (gO (gK 0)):=by
 have:gO (gK 0) = .sl false 0 1 λi _=>.v (.int .u32 (((gK 0).getD i 0:Nat):Int)):=by unfold gO;rw[nt];rfl
 rw[this];exact .nil _ _ _
def xR:E.le (.agg [bP false,.v (.slice none 0 0),iP 0,bP false,.v (.slice none 0 0),iP 0,bP true]) (gR gL):=
 .agg (.cons (.refl _) (.cons xz (.cons (.refl _) (.cons (.refl _) (.cons xz (.cons (.refl _) (.cons (.refl _) .nil)))))))
structure RD where
 neg:Bool
 L:List Nat
 e:Int
structure RI where
 lo:RD
 hi:RD
 all:Bool
def UN(d:RD):List E:=[bP d.neg,gO d.L,iP d.e]
def pA(d:RD):E:=.agg (UN d)
def sK(x:RI):List E:=[bP x.lo.neg,gO x.lo.L,iP x.lo.e,bP x.hi.neg,gO x.hi.L,iP x.hi.e,bP x.all]
def kH(x:RI):E:=.agg (sK x)
def Cn:RD:=⟨false,[],0⟩
def iR:RI:=⟨Cn,Cn,true⟩
def jk(l:List RI):E:=.sl true l.length 7 λi j=>(sK (l.getD i iR)).getD j .any
def pR(m:List (List RI)):E:=.sl true m.length 1 λi _=>jk (m.getD i [])
structure RD.jo(d:RD):Prop where
 ok:iw d.L
 lo:-9223372036854775808<=d.e
 hi:d.e<=9223372036854775807
structure RI.jo(x:RI):Prop where
 lo:x.lo.jo
 hi:x.hi.jo
def Vy:Cn.jo:=⟨iw.nil,aF,aF⟩
def Hu:iR.jo:=⟨Vy,Vy⟩
def RD.dy(d:RD):Dy:=⟨d.neg,val d.L,d.e⟩
def RD.Ok(d:RD):Prop:=od d.neg d.L d.e
def RD.Zero(d:RD):Prop:=d.neg=false/\d.L=[]/\d.e=0
def RI.iv(x:RI):Iv:=⟨x.lo.dy,x.hi.dy,x.all⟩
def RI.Ok(x:RI):Prop:=(x.all=true/\x.lo.Zero/\x.hi.Zero)\/(x.all=false/\x.lo.Ok/\x.hi.Ok/\jh x.lo.dy x.hi.dy<=0)
def Fp.Dy.raw(d:Dy):RD:=⟨d.neg,gK d.m,d.e⟩
def Fp.Iv.raw(x:Iv):RI:=⟨x.lo.raw,x.hi.raw,x.all⟩
def RD.Ok.valid{d:RD}(h:d.Ok):d.dy.gQ:=h.2.2
def RD.Ok.eq{d:RD}(h:d.Ok)(g:d.jo):d.dy.raw=d:=by
 obtain⟨n,L,e⟩:=d;show RD.mk n (gK (val L)) e=_;rw[<-od.CS h g.ok]
def RD.Zero.eq{d:RD}(h:d.Zero):d.dy=ix/\d.dy.raw=d:=by
 obtain⟨n,L,e⟩:=d;obtain⟨rfl,rfl,rfl⟩:=h;refine⟨rfl,?_⟩;show RD.mk false (gK 0) 0=_;rw[nt]
def RI.Ok.valid{x:RI}(h:x.Ok):x.iv.gQ:=by
 rcases h with⟨h1,h2,h3⟩|⟨h1,h2,h3,h4⟩
 .exact .inl ⟨h1,h2.eq.1,h3.eq.1⟩
 .exact .inr ⟨h1,h2.valid,h3.valid,h4⟩
def RI.Ok.eq{x:RI}(h:x.Ok)(g:x.jo):x.iv.raw=x:=by
 obtain⟨lo,hi,a⟩:=x;rcases h with⟨h1,h2,h3⟩|⟨h1,h2,h3,h4⟩
 .show RI.mk lo.dy.raw hi.dy.raw a=_;rw[h2.eq.2,h3.eq.2]
 .show RI.mk lo.dy.raw hi.dy.raw a=_;rw[h2.eq g.lo,h3.eq g.hi]
def Fp.Dy.UG(d:Dy):d.raw.dy=d:=by show Dy.mk d.neg (val (gK d.m)) d.e=d;rw[jR]
def BH(x:Iv):kH x.raw=gR x:=rfl
def Fp.Dy.gQ.wW{d:Dy}(h:d.gQ):d.raw.jo:=⟨kO _,by have:=h.exp;show -9223372036854775808<=d.e;omega,by have:=h.exp;show d.e<=9223372036854775807;omega⟩
def Fp.Dy.gQ.BS{d:Dy}(h:d.gQ):d.raw.Ok:=h.tY
def Fp.Iv.gQ.BS{x:Iv}(h:x.gQ):x.raw.Ok:=by
 rcases h with⟨h1,h2,h3⟩|⟨h1,h2,h3,h4⟩
 .refine .inl ⟨h1,?_,?_⟩
  .show x.lo.raw.Zero;rw[h2];exact⟨rfl,nt,rfl⟩
  .show x.hi.raw.Zero;rw[h3];exact⟨rfl,nt,rfl⟩
 .refine .inr ⟨h1,h2.BS,h3.BS,?_⟩;show jh x.lo.raw.dy x.hi.raw.dy<=0;rw[Dy.UG,Dy.UG];exact h4
def Fp.Iv.gQ.kn{x:Iv}(h:x.gQ):x.lo.gQ/\x.hi.gQ:=by
 rcases h with⟨_,h2,h3⟩|⟨_,h2,h3,_⟩
 .rw [h2,h3];exact⟨re,re⟩
 .exact ⟨h2,h3⟩
def Fp.Iv.gQ.wW{x:Iv}(h:x.gQ):x.raw.jo:=⟨h.kn.1.wW,h.kn.2.wW⟩
def ajd:gL.raw=iR:=by
 show RI.mk ix.raw ix.raw true=RI.mk Cn Cn true;have:ix.raw=Cn:=by show RD.mk false (gK 0) 0=_;rw[nt];rfl
 rw[this]
def sJ(l:List Iv):List RI:=l.map Iv.raw
def qo(m:List (List Iv)):List (List RI):=m.map sJ
def PM(l:List Iv)(i:Nat):(sJ l).getD i iR=(l.getD i gL).raw:=by
 unfold sJ;rw[bn,bn,cD];cases l[i]? with
 |none=>exact ajd.symm
 |some x=>rfl
def KV(l:List Iv):jk (sJ l)=ic l:=by
 unfold jk ic;rw[show(sJ l).length=l.length by simp[sJ]];congr 1;funext i j;rw[PM];rfl
def La(m:List (List Iv)):pR (qo m)=gV m:=by
 unfold pR gV;rw[show(qo m).length=m.length by simp[qo]];congr 1;funext i j;rw[<-KV];congr 1;unfold qo;rw[bn,bn,cD];cases m[i]? <;> rfl
structure AU(m:List (List RI)):Prop where
 n1:1<=m.length
 n8:m.length<=8
 k1:1<=(m.getD 0 []).length
 k8:(m.getD 0 []).length<=8
 row:∀ i,i<m.length->(m.getD i []).length=(m.getD 0 []).length
 ok:∀ i,i<m.length->∀ j,j<(m.getD i []).length->((m.getD i []).getD j iR).Ok
def vK(m:List (List RI)):Prop:=∀ r,r ∈ m->∀ x,x ∈ r->x.jo
def vK.at{m:List (List RI)}(h:vK m)(i j:Nat):((m.getD i []).getD j iR).jo:=by
 by_cases hi:i<m.length
 .rw [bn (l:=m),bt hi];show(m[i].getD j iR).jo;by_cases hj:j<m[i].length
  .rw [bn,bt hj];exact h _ (ch hi) _ (ch hj)
  .rw [bn,bR aD];exact Hu
 .rw [bn (l:=m),bR aD];exact Hu
def A9(d:RD)(g:d.jo)(b:Bool)(hb:b=true↔d.Ok):gJ 92 [pA d] (bP b):=by
 refine⟨call92,λw B vs hK hB hr=>?_⟩;obtain⟨v1,vs,rfl,h1,hr⟩:=hr.lV;obtain rfl:=hr.ph;obtain⟨us,rfl,q⟩:=iz.AX (show iz _ _ w (.agg _) v1 from h1);obtain⟨u1,us,rfl,k1,q⟩:=q.lV;obtain⟨u2,us,rfl,k2,q⟩:=q.lV;obtain⟨u3,us,rfl,k3,q⟩:=q.lV;obtain rfl:=q.ph;obtain rfl:=iz.kE k1;obtain rfl:=iz.kE k3;obtain⟨A,c,rfl,hs⟩:=uJ g.ok k2;exact(zx d.neg A c d.L d.e w b hs g.lo g.hi hb).mono λe w' h=>rv B w e w' hB h
def Ma(d:RD)(g:d.jo)(b:Bool)(hb:b=true↔d.Ok):gJ 96 [pA d] (bP b):=by
 refine⟨call96,λw B vs hK hB hr=>?_⟩;obtain⟨v1,vs,rfl,h1,hr⟩:=hr.lV;obtain rfl:=hr.ph;obtain⟨us,rfl,q⟩:=iz.AX (show iz _ _ w (.agg _) v1 from h1);obtain⟨u1,us,rfl,k1,q⟩:=q.lV;obtain⟨u2,us,rfl,k2,q⟩:=q.lV;obtain⟨u3,us,rfl,k3,q⟩:=q.lV;obtain rfl:=q.ph;obtain rfl:=iz.kE k1;obtain rfl:=iz.kE k3;obtain⟨A,c,rfl,hs⟩:=uJ g.ok k2;exact(Hh d.neg A c d.L d.e w b hs g.lo g.hi hb).mono λe w' h=>rv B w e w' hB h
def SK{a b:Nat}(h:a≠b):((a:Int) != (b:Int))=true:= aR 
def pK{a b:Nat}(h:a=b):((a:Int) != (b:Int))=false:=by simp[h]
def DY{a b:Nat}(h:a=b):((a:Int)==b)=true:=by simp[h]
def SG{a b:Nat}(h:a≠b):((a:Int)==b)=false:= aR 
open Classical in
noncomputable def ki(x:RI):Bool:=decide x.Ok
def pM{x:RI}:ki x=true↔x.Ok:=by unfold ki;simp
open Classical in
noncomputable def qE(m:List (List RI)):Bool:=decide (AU m)
def Ad{m:List (List RI)}:qE m=true↔AU m:=by unfold qE;simp
def wk{m:List (List RI)}(h:¬AU m):qE m=false:=by simpa using λq=>h (Ad.1 q)
open Go.ChangeShapes Go.WideShapes Go.ChangeAt
abbrev mE:Nat->Prop:=λ_=>False
def Yb{W:World}{a:Addr}{v:Value}(h:W.cell? a=some v):a.spot=none:=by
 obtain⟨b,o,s⟩:=a;rcases s with _|q
 .rfl
 .exfalso;unfold World.cell? at h;split at h<;>simp at h
def Mb{W:World}{a:Addr}{len cap sz:Nat}{nl:Bool}(el:Nat->Nat->E)(hl:len<=cap)(hm:cap<=maxLen)(lf:0<sz)
 (h1:∀ i j,i<len->j<sz->(el i j).one=true/\(nl=true->(el i j).mX=true)/\(el i j).nr 2=true)
 (hx:∀ i,i<len->∃ cs,W.cells? 0 (a.add (i*sz)) sz=some cs/\∀ j,j<sz->∃ v,cs[j]? = some v/\iz mE mE W (el i j) v):
 iz mE mE W (.sl nl len sz el) (.slice (some a) len cap):=by
 have QL:cap<=9223372036854775807:=by simpa[maxLen]using hm
 have cellAt:∀ i j,i<len->j<sz->∃ v,W.cell? (a.add (i*sz+j))=some v/\iz mE mE W (el i j) v:=by
  intro i j hi hj;obtain⟨cs,h2,h3⟩:=hx i hi;obtain⟨v,h4,h5⟩:=h3 j hj;refine⟨v,?_,h5⟩;rw[<-Deep.add_add,(World.cells?_some h2).2.2 j hj,h4]
 by_cases h0:len=0
 .subst h0;exact .sl nl 0 sz el _ cap (λ_ _=>.bool false) aD QL (λh=>by cases h) (λi j hi=>absurd hi aD) (λi j hi=>absurd hi aD) (λi j hi=>absurd hi aD) (λi j hi=>absurd hi aD)
 .obtain ⟨b,o,s⟩:=a;have hs:s=none:=by
   obtain⟨v,h2,_⟩:=cellAt 0 0 aD lf;rw[cB,bU,show(⟨b,o,s⟩:Addr).add 0=⟨b,o,s⟩from rfl]at h2;exact Yb h2
  subst hs;have cell2:∀ i j,∃ v:Value,i<len->j<sz->W.cell? ⟨b,o+(i*sz+j),none⟩=some v/\iz mE mE W (el i j) v:=by
   intro i j;by_cases hi:i<len
   .by_cases hj:j<sz
    .obtain ⟨v,h2,h3⟩:=cellAt i j hi hj;rw[zh]at h2;exact⟨v,λ_ _=>⟨h2,h3⟩⟩
    .exact ⟨.bool false,λ_ h=>absurd h hj⟩
   .exact ⟨.bool false,λh=>absurd h hi⟩
  let f:Nat->Nat->Value:=λi j=>Classical.choose (cell2 i j)
  have hf:∀ i j,i<len->j<sz->W.cell? ⟨b,o+(i*sz+j),none⟩=some (f i j)/\iz mE mE W (el i j) (f i j):=λi j=>dS (cell2 i j)
  refine .sl nl len sz el _ cap f hl QL (λh=>by cases h) (λi j hi hj=>?_) (λi j hi hj=>(h1 i j hi hj).2.2) (λi j hi hj=>?_) (λi j hi hj=>(hf i j hi hj).2)
  .exact ⟨(hf i j hi hj).2.one (h1 i j hi hj).1,λq=>(hf i j hi hj).2.mX ((h1 i j hi hj).2.1 q)⟩
  .exact ⟨b,o,rfl,id,block_lt_of_cell (hf i j hi hj).1,(hf i j hi hj).1⟩
def WO(W:World)(d:RD)(cs:List Value):Prop:=d.jo/\cs.length=3/\∀ j,j<3->∃ v,cs[j]? = some v/\iz mE mE W ((UN d).getD j .any) v
def EL(W:World)(x:RI)(cs:List Value):Prop:=x.jo/\cs.length=7/\∀ j,j<7->∃ v,cs[j]? = some v/\iz mE mE W ((sK x).getD j .any) v
section
variable {H:Type} {enc:TypeId×Value->H} {W:World} {fuel:Nat} {cs:List Value} {x:DataW H×List MemPlace}
def Td(h:DataW.trod enc prog W 0 (λ_=>true) true fuel 39 cs=some x)(iE:∀ p ∈ x.2,p.block<W.heap.size):∃ d,WO W d cs:=by
 obtain⟨s,A,L,cap,e,rfl,sA,h1,h2⟩:=aed h iE;refine⟨⟨s,L,e⟩,⟨sA.ok,h1,h2⟩,rfl,λj hj=>?_⟩;rcases j with _|_|_|j
 .exact ⟨_,rfl,.v _⟩
 .exact ⟨_,rfl,wJ (w:=W) (λ_ h=>h.elim) (.refl _) sA⟩
 .exact ⟨_,rfl,.v _⟩
 .omega
def Te(h:DataW.trod enc prog W 0 (λ_=>true) true fuel 46 cs=some x)(iE:∀ p ∈ x.2,p.block<W.heap.size):∃ d,EL W d cs:=by
 obtain⟨xs,n,rfl,rfl,hl,lC,hf⟩:=DataW.trod_struct underlying46 h;have hC:prog.cellsOf 46=7:= aG ;have hD:prog.cellsOf 39=3:= aG ;have hB:prog.cellsOf 4=1:= aG ;rw[hC]at hl;obtain⟨c0,c1,c2,c3,c4,c5,c6,rfl⟩:=ac0 hl;have h0:=hf 0 _ rfl;have h1:=hf 1 _ rfl;have h2:=hf 2 _ rfl;simp only[eU,eV,ee]at h0 h1 h2;simp only[hD,hB,eW,eX,ey,eZ]at h0 h1 h2;rw[bt (by rw[lC];decide)]at h0 h1 h2;obtain⟨lo,g1,_,k1⟩:=Td h0 (λp hp=>iE p (e7.2 ⟨_,ch _,hp⟩));obtain⟨hi,g2,_,k2⟩:=Td h1 (λp hp=>iE p (e7.2 ⟨_,ch _,hp⟩));obtain⟨al,e2,_⟩:=DataW.trod_bool underlying4 h2;simp at e2;subst e2;refine⟨⟨lo,hi,al⟩,⟨g1,g2⟩,rfl,λj hj=>?_⟩;rcases j with _|_|_|_|_|_|_|j
 .exact k1 0 aF 
 .exact k1 1 aF 
 .exact k1 2 aF 
 .exact k2 0 aF 
 .exact k2 1 aF 
 .exact k2 2 aF 
 .exact ⟨_,rfl,.v _⟩
 .omega
def agS(x:RI)(j:Nat)(hj:j<7):((sK x).getD j .any).one=true/\(((sK x).getD j .any).mX=true)/\((sK x).getD j .any).nr 2=true:=by
 rcases j with _|_|_|_|_|_|_|j
 all_goals first|exact⟨rfl,rfl,rfl⟩|omega
def agT{x:RI}{cs:Array Value}(h:EL W x cs.toList):iz mE mE W (kH x) (.agg cs):=by
 obtain⟨_,hl,h⟩:=h;have:=iz.agg (bs:=mE) (br:=mE) (w:=W) (sK x) cs.toList (by rw[hl];rfl) (λi p v h1 h2=>by
  have hi:i<7:=by have:=(cg.1 h2).1;omega
  obtain⟨v',h3,h4⟩:=h i hi;rw[h2]at h3;cases h3;rw[bn,h1]at h4;exact h4)
 unfold kH;simpa using this
def Tf(h:DataW.trod enc prog W 0 (λ_=>true) true fuel 26 cs=some x)(iE:∀ p ∈ x.2,p.block<W.heap.size):
  ∃ l v,cs=[v]/\(∀ y,y ∈ l->y.jo)/\iz mE mE W (jk l) v:=by
 have hC:prog.cellsOf 46=7:= aG ;rcases Deep.open_slice underlying26 h with⟨rfl,_⟩|⟨a,len,cap,m,n,D,Pl,rfl,hb,hl,hm,sv,rfl,hx⟩
 .exact ⟨[],_,rfl,(λy hy=>by cases hy),.sl true 0 7 _ none 0 (λ_ _=>.bool false) (bp _) aF (λ_=>rfl) (λi j hi=>absurd hi (bC i)) (λi j hi=>absurd hi (bC i)) (λi j hi=>absurd hi (bC i)) (λi j hi=>absurd hi (bC i))⟩
 .simp only[bI]at sv;subst sv;have ex:∀ i,∃ y:RI,i<len->∃ cs',W.cells? 0 (a.add (i*7)) 7=some cs'/\EL W y cs':=by
   intro i;by_cases hi:i<len
   .obtain ⟨cs',h1,h2⟩:=hx i aD ;rw[hC]at h1;obtain⟨y,hy⟩:=Te h2 (λp hp=>iE p (List.mem_append_right _ (e7.2 ⟨i,bD.2 aD,hp⟩)));exact⟨y,λ_=>⟨cs',h1,hy⟩⟩
   .exact ⟨iR,λh=>absurd h hi⟩
  let X:Nat->RI:=λi=>Classical.choose (ex i)
  have hX:∀ i,i<len->∃ cs',W.cells? 0 (a.add (i*7)) 7=some cs'/\EL W (X i) cs':=λi=>dS (ex i)
  have hlen:((List.range len).map X).length=len:= aJ ;refine⟨(List.range len).map X,_,rfl,?_,?_⟩
  .intro y hy;obtain⟨i,hi,rfl⟩:=cw.1 hy;obtain⟨cs',_,h2⟩:=hX i (bD.1 hi);exact h2.1
  .have zI:∀ i,i<len->((List.range len).map X).getD i iR=X i:=by
    intro i hi;rw[bn,cD,aka hi];rfl
   have:=Mb (W:=W) (a:=a) (len:=len) (cap:=m) (nl:=true) (λi j=>(sK (((List.range len).map X).getD i iR)).getD j .any) hl hm (show 0<7 by decide)
    (λi j _ hj=>let⟨h1,h2,h3⟩:=agS (((List.range len).map X).getD i iR) j hj;⟨h1,λ_=>h2,h3⟩)
    (λi hi=>by
     obtain⟨cs',h1,h2,_,h3⟩:=hX i hi;exact⟨cs',h1,λj hj=>by rw[zI i hi];exact h3 j hj⟩)
   unfold jk;rw[hlen];exact this
end
def abe{P:Program}{c:OpenClaim}(h:P.funcs.any Func.goes=false)(hs:c.start = .entering):false=c.goesBy P:=by
 have h1:∀ g:Nat,(P.funcs[g]?).any Func.goes=false:=by
  intro g;cases hg:P.funcs[g]? with
  |none=>rfl
  |some fn=>
   rw[Option.any_some];rw[Array.any_eq_false]at h;obtain⟨hl,he⟩:=cX.1 hg;have:=h g hl;rw[he]at this;simpa using this
 have h2:∀ f,P.goes f=false:=by
  intro f;unfold Program.goes;rw[h,Bool.and_false,ajX,c9];intro g _;rw[h1 g];decide
 unfold OpenClaim.goesBy Program.goesAt Program.goesFrom;rw[hs];cases P.funcNamed c.func with
 |none=>rfl
 |some f=>simp[h2 f]
def aau:Tryz.pinned.checked.prog.funcs.any Func.goes=false:= aG 
def Rv(k:IntKind)(l:List Int):E:=.sl true l.length 1 λi _=>.v (.int k (l.getD i 0))
def WE{k:IntKind}{z:Int}(h:(Lit.int k z).wf=true):ko k z:=by
 cases k<;>(simp[Lit.wf,IntKind.min,IntKind.max,IntKind.signed,IntKind.bits]at h;simp only[ko];omega)
def aee{H:Type}{enc:TypeId×Value->H}{W:World}{fuel:Nat}{cs:List Value}{x:DataW H×List MemPlace}{t e:TypeId}{k:IntKind}(hk:∀ z,rA (.int k z)=false)(ht:prog.underlying t=some (.slice e))(he:prog.underlying e=some (.int k))(hC:prog.cellsOf e=1)
  (h:DataW.trod enc prog W 0 (λ_=>true) true fuel t cs=some x):∃ l v,cs=[v]/\(∀ z,z ∈ l->ko k z)/\iz mE mE W (Rv k l) v:=by
 rcases Deep.open_slice ht h with⟨rfl,_⟩|⟨a,len,cap,m,n,D,Pl,rfl,hb,hl,hm,sv,rfl,hx⟩
 .exact ⟨[],_,rfl,(λy hy=>by cases hy),.sl true 0 1 _ none 0 (λ_ _=>.bool false) (bp _) aF (λ_=>rfl) (λi j hi=>absurd hi (bC i)) (λi j hi=>absurd hi (bC i)) (λi j hi=>absurd hi (bC i)) (λi j hi=>absurd hi (bC i))⟩
 .simp only[bI]at sv;subst sv;have ex:∀ i,∃ z:Int,i<len->W.cells? 0 (a.add (i*1)) 1=some [.int k z]/\ko k z:=by
   intro i;by_cases hi:i<len
   .obtain ⟨cs',h1,h2⟩:=hx i aD ;rw[hC]at h1;obtain⟨z,hz,_,hw⟩:=DataW.trod_int he h2;subst hz;exact⟨z,λ_=>⟨h1,WE hw⟩⟩
   .exact ⟨0,λh=>absurd h hi⟩
  let X:Nat->Int:=λi=>Classical.choose (ex i)
  have hX:∀ i,i<len->W.cells? 0 (a.add (i*1)) 1=some [.int k (X i)]/\ko k (X i):=λi=>dS (ex i)
  have hlen:((List.range len).map X).length=len:= aJ ;refine⟨(List.range len).map X,_,rfl,?_,?_⟩
  .intro r hr;obtain⟨i,hi,rfl⟩:=cw.1 hr;exact(hX i (bD.1 hi)).2
  .have zI:∀ i,i<len->((List.range len).map X).getD i 0=X i:=by
    intro i hi;rw[bn,cD,aka hi];rfl
   have:=Mb (W:=W) (a:=a) (len:=len) (cap:=m) (nl:=true) (λi _=>.v (.int k (((List.range len).map X).getD i 0))) hl hm (show 0<1 by decide)
    (λi j _ hj=>⟨rfl,λ_=>by show(!rA _)=true;rw[hk];rfl,rfl⟩)
    (λi hi=>by
     refine⟨[.int k (X i)],(hX i hi).1,λj hj=>?_⟩;obtain rfl:j=0:= aD ;exact⟨_,rfl,by rw[zI i hi];exact .v _⟩)
   unfold Rv;rw[hlen];exact this
end Go.Proofs.YtkjkcjhacddojaaGreatDoor
namespace Go.Proofs.YtkjkcjhacddojaaGreatDoor.Pu
open Go.RowKit
inductive R where
 |nil
 |jv
 |a (p:Prop) (r:R)
 |w (p:Prop) (r1:p->R) (r2:¬p->R)
def R.ok:R->Prop
 | .nil=>True
 | .jv=>False
 | .a p r=>p/\r.ok
 | .w p r1 r2=>(∀ h:p,(r1 h).ok)/\(∀ h:¬p,(r2 h).ok)
inductive Tr(P:Program)(K:World->Prop) where
 |nil
 |c {f:FuncId} {args:List E} {jQ:E} (h:PC P K f args jQ) (t:Tr P K)
 |cf {f:FuncId} {args:List E} {jQ:E} (h:ze P K f args jQ) (t:Tr P K)
 |cn {f:FuncId} {args:List E} {nl:Bool} {T:TypeId} {n sz:Nat} {el:Nat->Nat->E} (h:tK P K f args nl T n sz el) (t:Tr P K)
 |g {op:BinOp} {ty:TypeId} {x y:E} {v:Value} (h:oN P op ty x y v) (t:Tr P K)
 |m {l:List (Int×FuncId×List FuncId)} {z:Int} {e:E} (h:wq l z=some e) (t:Tr P K)
 |o (d:Nat) {p q:PV} (h:PV.le p q) (t:Tr P K)
 |bo (t:Tr P K)
 |a {p:Prop} (h:p) (t:Tr P K)
 |w (p:Prop) (t1:p->Tr P K) (t2:¬p->Tr P K)
 |s {c:Code} {σ τ:PS} {e:Ex} (h:Sp P K c σ (λe' τ'=>e'=e/\τ'=τ)) (l t:Tr P K)
 |j (c:Nat) (τ:PS) (tj t:Tr P K)
 |v (d:Nat) {p q:PV} (h:PV.le p q) (t:Tr P K)
 |b (d:Nat) {p q:Bx} (h:Bx.le p q) (t:Tr P K)
 |z (id:Nat) (t:Tr P K)
 |y (s id:Nat) (nl:Bool) (T:TypeId) (sz:Nat) (el:Nat->Nat->E) (t:Tr P K)
 |e (t:Tr P K)
 |k (ts bs:List Nat) (t:Tr P K)
 |u (n:Nat) (t:Tr P K)
 |x (h:False)
 |r {p q:E} (h:E.le p q)
 |rb {p q:Bx} (h:Bx.le p q)
section
variable {P:Program} {K:World->Prop}
def Cu:List (Nat×PV)->Tr P K->(Tr P K->R)->R
 | [],t,k=>k t
 | (d,q)::l,t,k=>match t with
  | .o d' (p:=p) (q:=q') _ t'=>if Nat.beq d' d then .a (PV.le p q') (Cu l t' k)else .a (PV.le q q) (Cu l t k)
  |t=>.a (PV.le q q) (Cu l t k)
def A0:List (Nat×Bx)->Tr P K->R->R
 | [],_,r=>r
 | (d,q)::l,t,r=>match t with
  | .b d' (p:=p) (q:=q') _ t'=>if Nat.beq d' d then .a (Bx.le p q') (A0 l t' r)else .a (Bx.le q q) (A0 l t r)
  |t=>.a (Bx.le q q) (A0 l t r)
def Cs(σ:PS)(t:Tr P K)(r:R):R:=Cu σ.t t λt=>A0 σ.b t r
def Tr.ex:Tr P K->(Tr P K->R)->R
 | .nil,fin=>fin .nil
 | .e t,fin=>fin t
 | @Tr.c _ _ f args jQ _ t,fin=>.a (PC P K f args jQ) (t.ex fin)
 | @Tr.cf _ _ f args jQ _ t,fin=>.a (ze P K f args jQ) (t.ex fin)
 | @Tr.cn _ _ f args nl T n sz el _ t,fin=>.a (tK P K f args nl T n sz el) (t.ex fin)
 | @Tr.g _ _ op₁ ty₁ xe₁ ye₁ ve₁ _ t,fin=>.a (oN P op₁ ty₁ xe₁ ye₁ ve₁) (t.ex fin)
 | @Tr.m _ _ l₁ z₁ e₁ _ t,fin=>.a (wq l₁ z₁=some e₁) (t.ex fin)
 | .o _ (p:=p) (q:=q) _ t,fin=>.a (PV.le p q) (t.ex fin)
 | .bo t,fin=>.a True (t.ex fin)
 | .a (p:=p) _ t,fin=>.a p (t.ex fin)
 | .w p t1 t2,fin=>.w p (λh=>(t1 h).ex fin) (λh=>(t2 h).ex fin)
 | @Tr.s _ _ c₁ σ τ e₁ _ l t,fin=>Cs σ l (.a (Sp P K c₁ σ (λe' τ'=>e'=e₁/\τ'=τ)) (t.ex fin))
 | .j _ τ tj t,fin=>.a (tj.ex λt=>Cs τ t .nil).ok (t.ex fin)
 | .v _ (p:=p) (q:=q) _ t,fin=>.a (PV.le p q) (t.ex fin)
 | .b _ _ t,fin=>t.ex fin
 | .z _ t,fin=>t.ex fin
 | .y _ _ _ _ _ _ t,fin=>t.ex fin
 | .k _ _ t,fin=>t.ex fin
 | .u _ t,fin=>t.ex fin
 | .x _,fin=>.a False .nil
 | .r (p:=p) (q:=q) _,fin=>.a (E.le p q) .nil
 | .rb (p:=p) (q:=q) _,fin=>.a (Bx.le p q) .nil
def ais{l:List (Nat×PV)}{t:Tr P K}{k:Tr P K->R}(hk:∀ t,(k t).ok):(Cu l t k).ok:=by
 induction l generalizing t with
 |nil=>exact hk t
 |cons x l ih=>
  obtain⟨d,q⟩:=x;cases t with
  |o d' h t'=>
   simp only[Cu];split
   .exact ⟨h,ih⟩
   .exact ⟨PV.le.refl q,ih⟩
  |_=>exact⟨PV.le.refl q,ih⟩
def Xn{l:List (Nat×Bx)}{t:Tr P K}{r:R}(hr:r.ok):(A0 l t r).ok:=by
 induction l generalizing t with
 |nil=>exact hr
 |cons x l ih=>
  obtain⟨d,q⟩:=x;cases t with
  |b d' h t'=>
   simp only[A0];split
   .exact ⟨h,ih⟩
   .exact ⟨Bx.le.refl q,ih⟩
  |_=>exact⟨Bx.le.refl q,ih⟩
def Mu{σ:PS}{t:Tr P K}{r:R}(hr:r.ok):(Cs σ t r).ok:=ais λ_=>Xn hr
def Tr.JA{fin:Tr P K->R}(hf:∀ t,(fin t).ok)(t:Tr P K):(t.ex fin).ok:=by
 induction t generalizing fin with
 |nil=>exact hf _
 |e t=>exact hf _
 |c h t ih=>exact⟨h,ih hf⟩
 |cf h t ih=>exact⟨h,ih hf⟩
 |cn h t ih=>exact⟨h,ih hf⟩
 |g h t ih=>exact⟨h,ih hf⟩
 |m h t ih=>exact⟨h,ih hf⟩
 |o d h t ih=>exact⟨h,ih hf⟩
 |bo t ih=>exact⟨trivial,ih hf⟩
 |a h t ih=>exact⟨h,ih hf⟩
 |w p t1 t2 Ds Dt=>exact⟨λh=>Ds h hf,λh=>Dt h hf⟩
 |s h l t ihl KK=>exact Mu ⟨h,KK hf⟩
 |j c τ tj t ihj KK=>exact⟨ihj λ_=>Mu trivial,KK hf⟩
 |v d h t ih=>exact⟨h,ih hf⟩
 |b d h t ih=>exact ih hf
 |z id t ih=>exact ih hf
 |y s id nl T sz el t ih=>exact ih hf
 |k ts bs t ih=>exact ih hf
 |u n t ih=>exact ih hf
 |x h=>exact h.elim
 |r h=>exact⟨h,trivial⟩
 |rb h=>exact⟨h,trivial⟩
def My(υ:PS):List (Nat×PV)->R->R
 | [],r=>r
 | (d,q)::l,r=>.a (PV.le (υ.get d) q) (My υ l r)
def EV(υ:PS):List (Nat×Bx)->R->R
 | [],r=>r
 | (d,q)::l,r=>match υ.bo d with
  |some b=>.a (Bx.le b q) (EV υ l r)
  |none=>.jv
def HW(υ σ:PS)(r:R):R:=if Nat.beq υ.n σ.n&&(σ.b.all (λx=>x.2.nl)||(σ.nl==υ.nl))&&El σ then My υ σ.t (EV υ σ.b r)else .jv
def Tr.tail:Tr P K->Tr P K
 | .c _ t=>t
 | .cf _ t=>t
 | .cn _ t=>t
 | .g _ t=>t
 | .m _ t=>t
 | .bo t=>t
 | .a _ t=>t
 |_=>.nil
def Lv:List Prop->Tr P K->(Tr P K->R)->R
 | [],t,k=>k t
 |p::l,t,k=>.a p (Lv l t.tail k)
def NU(d:Option Tmp)(t:Tr P K):pn:=match d with
 |some d=>match t with
  | @Tr.c _ _ _ _ jQ _ _=>{ cl:=[(d,jQ)] }
  | @Tr.cf _ _ _ _ jQ _ _=>{ cl:=[(d,jQ)] }
  | @Tr.g _ _ _ _ _ _ ve₁ _ _=>{ cl:=[(d,.v ve₁)] }
  | @Tr.m _ _ _ _ e₁ _ _=>{ cl:=[(d,e₁)] }
  | @Tr.cn _ _ _ _ nl T n sz el _ _=>{ nw:=[(d,.row nl T n sz el)] }
  | .bo _=>{ nw:=[(d,.cells 0 [])] }
  |_=>{}
 |none=>{}
def Ea:Tr P K->(Tr P K->R)->R
 | .w p t1 t2,k=>.w p (λh=>Ea (t1 h) k) (λh=>Ea (t2 h) k)
 | .x _,_=>.a False .nil
 |t,k=>k t
def LH(o:Oper)(u:kA)(t:Tr P K)(k:kA->Tr P K->R):R:=match o.dst,t with
 |some d,.o d' (q:=q) _ t'=>if Nat.beq d' d then .a (PV.le u.r q) (k { u with r:=q,jM:=PV.le u.r q::u.jM } t')else k u t
 |_,t=>k u t
def LA(T:List TI)(gI:Array Oper)(σ:PS)(o:Oper)(t:Tr P K)(k:kA->Tr P K->R):R:=
 if uw σ o.dst then match xQ gI σ o with
  |some false=>k { r:=.e (.v (.tuple #[])),rd:=(looks gI o).map σ.get } t
  |some true=>Ea t λt=>match jy P K T (NU o.dst t) σ o with
   |some u=>Lv u.jM t λt=>Ea t λt=>LH o u t λu t=>k { u with rd:=(looks gI o).map σ.get } t
   |none=>.jv
  |none=>.jv
 else .jv
def LD(T:List TI)(gI:Array Oper)(k:List (Oper×kA)->PS->Tr P K->R):List Oper->List (Oper×kA)->PS->Tr P K->R
 | [],us,σ,t=>k us σ t
 |o::l,us,σ,t=>LA T gI σ o t λu t'=>LD T gI k l ((o,u)::us) (σ.app o.dst u) t'
def qF(c:Bool):Tr P K->PS->(Tr P K->PS->R)->R
 | .w p t1 t2,σ,k=>.w p (λh=>qF c (t1 h) σ k) (λh=>qF c (t2 h) σ k)
 | .x _,_,_=>.a False .nil
 | .v d (q:=q) _ t,σ,k=>match q with
  | .e x=>if uw σ (some d)then .a (PV.le (σ.get d) (.e x)) (qF c t (σ.put (some d) (.e x)) k)else .jv
  |_=>.jv
 | .k ts bs t,σ,k=>if c then k (.k ts bs t) σ else if El (σ.cut ts bs)then qF c t (σ.cut ts bs) k else .jv
 | .z id t,σ,k=>if c then k (.z id t) σ else match σ.bo id with
  |some b=>match b.as with
   |some e=>qF c t (σ.vT id e) k
   |none=>.jv
  |none=>.jv
 | .y s id nl T sz el t,σ,k=>if c then k (.y s id nl T sz el t) σ else match σ.bo id,σ.get s with
  |none,.e (.v (.slice none 0 0))=>if !σ.nl||nl then qF c t (σ.AW s id (.row nl T 0 sz el)) k else .jv
  |_,_=>.jv
 |t,σ,k=>k t σ
def Mt(c:Code)(σ:PS)(t:Tr P K)(k:Ex->PS->Tr P K->R):R:=match t with
 | @Tr.s _ _ _ σ' τ e _ _ t=>HW σ σ' (.a (Sp P K c σ' (λe' τ'=>e'=e/\τ'=τ)) (k e τ t))
 |_=>.jv
def Ex.pk:Ex->Ex->Bool
 | .normal,.normal=>true
 | .ret,.ret=>true
 | .exit a,.exit b=>Nat.beq a b
 |_,_=>false
def CR(e:Ex)(τ:PS)(e':Ex)(υ:PS)(_:Tr P K):R:=if Ex.pk e' e then HW υ τ .nil else .jv
def Ys:Operand->Nat
 | .tmp t=>2*t
 |_=>1
def jn(c:Nat)(g:PS->Tr P K->(Ex->PS->Tr P K->R)->R)(σ:PS)(t:Tr P K)(k:Ex->PS->Tr P K->R):R:=match t with
 | .j c' τ tj t'=>if Nat.beq c' c then .a (g σ tj (CR .normal τ)).ok (k .normal τ t')else g σ t k
 |t=>g σ t k
def Ws(f:PS->Tr P K->(Ex->PS->Tr P K->R)->R):Nat->PS->Tr P K->(Ex->PS->Tr P K->R)->R
 | 0,_,_,_=>.jv
 |n+1,σ,t,k=>qF false t σ λt σ=>f σ t λe τ t=>match e with
  | .normal=>Ws f n τ t k
  |e=>k e τ t
def uc(T:List TI):Code->PS->Tr P K->(Ex->PS->Tr P K->R)->R
 | .skip,σ,t,k=>k .normal σ t
 | .region _ gI d,σ,t,k=>LD T gI (λus τ t=>if !d||BU gI 0 us.reverse then k .normal τ t else .jv) gI.toList [] σ t
 | .seq a b,σ,t,k=>uc T a σ t λe τ t=>match e with
  | .normal=>uc T b τ t k
  |e=>k e τ t
 | .cond c a b,σ,t,k=>qF true t σ λt σ=>jn (Ys c) (λσ t k=>qF true t σ λt σ=>match σ.op c with
  | .e (.v (.bool true))=>uc T a σ t k
  | .e (.v (.bool false))=>uc T b σ t k
  |_=>.jv) σ t k
 | .block id b,σ,t,k=>qF true t σ λt σ=>jn (2*id+1) (λσ t k=>uc T b σ t λe τ t=>match e with
  | .exit i=>if Nat.beq i id then k .normal τ t else k (.exit i) τ t
  |e=>k e τ t) σ t k
 | .exit id,σ,t,k=>qF false t σ λt σ=>k (.exit id) σ t
 | .ret,σ,t,k=>qF false t σ λt σ=>k .ret σ t
 | .loop b,σ,t,k=>qF false t σ λt σ=>match t with
  | .u n t=>Ws (uc T b) n σ t k
  |t=>Mt (.loop b) σ t k
 | .label _,σ,t,k=>k .normal σ t
 | .scope b,σ,t,k=>uc T b σ t k
 |_,_,_,_=>.jv
def Tl{t:Tr P K}{k:Tr P K->R}(h:(Ea t k).ok):∃ t',(k t').ok:=by
 induction t with
 |w p t1 t2 Ds Dt=>
  by_cases hp:p
  .exact Ds hp (h.1 hp)
  .exact Dt hp (h.2 hp)
 |x hf=>exact hf.elim
 |_=>exact⟨_,h⟩
def ad5{l:List Prop}{t:Tr P K}{k:Tr P K->R}(h:(Lv l t k).ok):(∀ q,q ∈ l->q)/\∃ t',(k t').ok:=by
 induction l generalizing t with
 |nil=>exact⟨λq hq=>by simp at hq,t,h⟩
 |cons p l ih=>
  obtain⟨h1,h2⟩:=ih h.2;refine⟨λq hq=>?_,h2⟩;rcases cM.1 hq with hq|hq
  .subst hq;exact h.1
  .exact h1 q hq
variable {T:List TI} {gI:Array Oper} {σ:PS} {o:Oper}
def aeq{O:pn}{u:kA}{t:Tr P K}{k:kA->Tr P K->R}(hO:O.ov=[])(hu:jy P K T O σ o=some u)(ho:∀ q,q ∈ u.jM->q)(h:(LH o u t k).ok):
 ∃ O' u' t',sS P K T O' σ o=some u'/\(∀ q,q ∈ u'.jM->q)/\(k u' t').ok:=by
 have plain:(k u t).ok->∃ O' u' t',sS P K T O' σ o=some u'/\(∀ q,q ∈ u'.jM->q)/\(k u' t').ok:=by
  intro h;refine⟨O,u,t,?_,ho,h⟩;unfold sS;rw[hu,hO];cases o.dst<;>rfl
 unfold LH at h;split at h
 .rename_i d d' p q hpq t' hd;split at h
  .obtain ⟨h1,h2⟩:=h;refine⟨⟨O.cl,[(d,q)],O.nw⟩,_,t',?_,λx hx=>?_,h2⟩
   .unfold sS;have he:jy P K T ⟨O.cl,[(d,q)],O.nw⟩ σ o=jy P K T O σ o:=by cases O;rfl
    rw[he,hu,hd];simp[look]
   .rcases cM.1 hx with hx|hx
    .subst hx;exact h1
    .exact ho x hx
  .exact plain h
 .exact plain h
def aeb{t:Tr P K}{k:kA->Tr P K->R}(h:(LA T gI σ o t k).ok):∃ u t',(∃ O,qc P K T O gI σ o=some u)/\(∀ q,q ∈ u.jM->q)/\(k u t').ok:=by
 unfold LA at h;split at h
 .rename_i hi;split at h
  .rename_i hw;refine⟨_,t,⟨{},?_⟩,λq hq=>by simp at hq,h⟩;unfold qc;rw[bj hi,hw]
  .rename_i hw;obtain⟨t1,h1⟩:=Tl h;split at h1
   .rename_i u hu;obtain⟨ho,t2,h2⟩:=ad5 h1;obtain⟨t2,h2⟩:=Tl h2;obtain⟨O',u',t3,BD,Gf,h3⟩:=aeq (by
     unfold NU;cases o.dst with
     |none=>rfl
     |some d=>cases t1<;>rfl) hu ho h2
    refine⟨{ u' with rd:=(looks gI o).map σ.get },t3,⟨O',?_⟩,Gf,h3⟩;unfold qc;rw[bj hi,hw,BD]
   .exact h1.elim
  .exact h.elim
 .exact h.elim
def ael{k:List (Oper×kA)->PS->Tr P K->R}{l:List Oper}{us:List (Oper×kA)}{t:Tr P K}(h:(LD T gI k l us σ t).ok):
 ∃ vs τ t',uO P K T gI vs σ τ/\vs.map (·.1)=l/\(∀ x,x ∈ vs->∀ q,q ∈ x.2.jM->q)/\(k (vs.reverse++us) τ t').ok:=by
 induction l generalizing us σ t with
 |nil=>exact⟨[],σ,t,qO.refl σ,rfl,λx hx=>by simp at hx,h⟩
 |cons o l ih=>
  obtain⟨u,t1,h1,h2,h3⟩:=aeb h;obtain⟨vs,τ,t',k1,k2,k3,k4⟩:=ih h3;refine⟨(o,u)::vs,τ,t',⟨h1,k1⟩,by simp[k2],λx hx=>?_,by simpa using k4⟩;rcases cM.1 hx with hx|hx
  .subst hx;exact h2
  .exact k3 x hx
def PS.le.set{σ:PS}{d:Nat}{x:E}(hd:uw σ (some d)=true)(h:PV.le (σ.get d) (.e x)):PS.le σ (σ.put (some d) (.e x)):=λw0 B a w L _ r=>by
 have zE:d<σ.n:=by simpa[uw,Nat.blt_eq]using hd
 refine⟨L,r.hd,by rw[PS.Lf];exact r.hs,λt=>?_,λid b hb=>r.hb id b hb,r.hv,r.hn,r.hw,r.hi,r.he,r.hl⟩;rw[PS.JN];by_cases e:d=t
 .subst e;rw[bj rfl];exact h _ _ _ _ _ (r.ht d)
 .rw [bh e];exact r.ht t
def Am{c:Bool}{t:Tr P K}{σ:PS}{k:Tr P K->PS->R}(h:(qF c t σ k).ok):∃ t' τ,PS.le σ τ/\(k t' τ).ok:=by
 induction t generalizing σ with
 |w p t1 t2 Ds Dt=>
  by_cases hp:p
  .exact Ds hp (h.1 hp)
  .exact Dt hp (h.2 hp)
 |k ts bs t ih=>
  simp only[qF]at h;split at h
  .exact ⟨_,σ,PS.le.refl σ,h⟩
  split at h
  .rename_i hr;obtain⟨t',τ,h1,h2⟩:=ih h;exact⟨t',τ,(PS.le.cut ts bs hr).trans h1,h2⟩
  .exact h.elim
 |v d h0 t ih=>
  simp only[qF]at h;split at h
  .rename_i x;split at h
   .rename_i hd;obtain⟨t',τ,h1,h2⟩:=ih h.2;exact⟨t',τ,(PS.le.set hd h.1).trans h1,h2⟩
   .exact h.elim
  .exact h.elim
 |z id t ih=>
  simp only[qF]at h;split at h
  .exact ⟨_,σ,PS.le.refl σ,h⟩
  split at h
  .rename_i b hb;split at h
   .rename_i e he;obtain⟨t',τ,h1,h2⟩:=ih h;exact⟨t',τ,(PS.le.freeze id hb he).trans h1,h2⟩
   .exact h.elim
  .exact h.elim
 |y s id nl T sz el t ih=>
  simp only[qF]at h;split at h
  .exact ⟨_,σ,PS.le.refl σ,h⟩
  split at h
  .rename_i hb hg;split at h
   .rename_i hn;obtain⟨t',τ,h1,h2⟩:=ih h;exact⟨t',τ,(PS.le.W1 s id hb hg (λe=>by rw[e]at hn;simpa using hn)).trans h1,h2⟩
   .exact h.elim
  .exact h.elim
 |x hf=>exact hf.elim
 |_=>exact⟨_,σ,PS.le.refl σ,h⟩
def ait{υ:PS}{l:List (Nat×PV)}{r:R}(h:(My υ l r).ok):vJ υ l/\r.ok:=by
 induction l with
 |nil=>exact⟨trivial,h⟩
 |cons x l ih=>obtain⟨d,q⟩:=x;exact⟨⟨h.1,(ih h.2).1⟩,(ih h.2).2⟩
def XA{υ:PS}{l:List (Nat×Bx)}{r:R}(h:(EV υ l r).ok):uM υ l/\r.ok:=by
 induction l with
 |nil=>exact⟨trivial,h⟩
 |cons x l ih=>
  obtain⟨d,q⟩:=x;simp only[EV]at h;split at h
  .rename_i b hb;exact⟨⟨⟨b,hb,h.1⟩,(ih h.2).1⟩,(ih h.2).2⟩
  .exact h.elim
def VU{υ σ:PS}{r:R}(h:(HW υ σ r).ok):PS.le υ σ/\r.ok:=by
 unfold HW at h;split at h
 .rename_i hc;simp only[bQ,dJ,gz]at hc;obtain⟨⟨h1,h2⟩,h3⟩:=hc;obtain⟨h4,h5⟩:=ait h;obtain⟨h6,h7⟩:=XA h5;refine⟨?_,h7⟩;rcases h2 with h2|h2
  .exact PS.le.acC (mz.1 h1) h2 h3 h4 h6
  .exact PS.le.oW (mz.1 h1) h2 h3 h4 h6
 .exact h.elim
def aho(hT:me P T){w0:World}{B:Nat->Prop}{a:Act}{w:World}{L:Lk}(g:Gd P K w0 B){us:List (Oper×kA)}{τ:PS}{Q:Exit->Act->World->Prop}(h:uO P K T gI us σ τ)(ho:∀ x,x ∈ us->∀ q,q ∈ x.2.jM->q)
 (r:jr w0 B σ a w L) (hq:∀ a' w' L',jr w0 B τ a' w' L'->Q .normal a' w'):wpList P gI Q (us.map (·.1)) a w:=by
 induction us generalizing σ a w L with
 |nil=>exact hq a w L (r.pk h)
 |cons x us ih=>
  obtain⟨⟨O,h1⟩,h2⟩:=h;rw[e9];unfold wpList;rcases Pk hT g r h1 (ho x aJ) (wpList P gI Q (us.map (·.1))) Q (λa' w' L' hr=>ih h2 (λy hy=>ho y (by simp[hy])) hr)with⟨p1,p2⟩|⟨p1,p2⟩
  .rw [bj p1];exact .inl p2
  .rw [bh (by rw[p1];simp)];exact p2
def agE(hT:me P T)(hm:P.follows .mixedOrders=true){w0:World}{B:Nat->Prop}{a:Act}{w:World}{L:Lk}(g:Gd P K w0 B){id:Nat}{draw:Bool}{us:List (Oper×kA)}{τ:PS}{Q:Exit->Act->World->Prop}
 (h:uO P K T gI us σ τ) (hl:us.map (·.1)=gI.toList) (ho:∀ x,x ∈ us->∀ q,q ∈ x.2.jM->q) (hp:(!draw||BU gI 0 us)=true) (r:jr w0 B σ a w L)
 (hq:∀ a' w' L',jr w0 B τ a' w' L'->Q .normal a' w'):(Code.region id gI draw).wp P Q a w:=by
 cases draw with
 |false=>exact wp_region_list (by rw[<-hl];exact aho hT g h ho r hq)
 |true=>
  obtain⟨R,r1,r2,r3⟩:=acK hl (by simpa using hp);refine wp_region_any hm (W7 hT g hq gI.size (Array.replicate gI.size false) R σ a w.drew L r2 aJ r3 (λx hx=>ho x.2 ?_) (by rw[r1];exact h) r.drew);rw[<-r1];exact cw.2 ⟨x,hx,rfl⟩
def ahY{c:Code}{t:Tr P K}{k:Ex->PS->Tr P K->R}(h:(Mt c σ t k).ok):Sp P K c σ (λe τ=>∃ t',(k e τ t').ok):=by
 unfold Mt at h;split at h
 .obtain ⟨h1,h2,h3⟩:=VU h;exact Sp.pre h1 (h2.mono λe τ ⟨q1,q2⟩=>by subst q1 q2;exact⟨_,h3⟩)
 .exact h.elim
def Ex.ahp{a b:Ex}(h:Ex.pk a b=true):a=b:=by
 cases a<;>cases b<;>first|rfl|(cases h;done)|exact congrArg Ex.exit (mz.1 h)
def O6{e e':Ex}{τ υ:PS}{t:Tr P K}(h:(CR e τ e' υ t).ok):e'=e/\PS.le υ τ:=by
 unfold CR at h;split at h
 .rename_i he;exact⟨Ex.ahp he,(VU h).1⟩
 .exact h.elim
def RQ{c:Code}{cb:Nat}{g:PS->Tr P K->(Ex->PS->Tr P K->R)->R}(hg:∀ σ t k,(g σ t k).ok->Sp P K c σ (λe τ=>∃ t',(k e τ t').ok)){σ:PS}{t:Tr P K}{k:Ex->PS->Tr P K->R}(h:(jn cb g σ t k).ok):
 Sp P K c σ (λe τ=>∃ t',(k e τ t').ok):=by
 unfold jn at h;split at h
 .rename_i c' τ tj t;split at h
  .refine (hg _ _ _ h.1).post λe υ ⟨t',ht⟩=>?_
   obtain⟨he,hl⟩:=O6 ht;exact⟨τ,hl,t,by rw[he];exact h.2⟩
  .exact hg _ _ _ h
 .exact hg _ _ _ h
def uP(P:Program)(K:World->Prop)(b:Code)(σ:PS)(Q:Ex->PS->Prop):Prop:=
 ∀ (w0:World) (B:Nat->Prop) (a:Act) (w:World) (L:Lk),Gd P K w0 B->jr w0 B σ a w L->∀ bf k cs,
  ∃ e a' w',(∃ ex τ L',e=Ex.to ex/\Q ex τ/\jr w0 B τ a' w' L')/\Arrives P (lone (bf.at a (.code b :: .inLoop b::k)) cs w) bf k cs e a' w'
def uP.loop{b:Code}{σ:PS}{Q:Ex->PS->Prop}(h:uP P K b σ Q):Sp P K (.loop b) σ Q:=by
 intro w0 B a w L g r bf k cs;obtain⟨e,a',w',hq,uY⟩:=h w0 B a w L g r bf k cs;exact⟨e,a',w',hq,.of_steps (.one step_loop) uY⟩
def uP.pre{b:Code}{σ τ:PS}{Q:Ex->PS->Prop}(h:PS.le σ τ)(k:uP P K b τ Q):uP P K b σ Q:=λw0 B a w L g r=>
 let⟨L',r'⟩:=h w0 B a w L (λb hb=>(g.hB b hb).1) r;k w0 B a w L' g r'
def uP.step{b:Code}{σ:PS}{Q:Ex->PS->Prop}(h:Sp P K b σ (λe τ=>(e = .normal/\uP P K b τ Q)\/(e ≠ .normal/\Q e τ))):uP P K b σ Q:=by
 intro w0 B a w L g r bf k cs;obtain⟨e,a₁,w₁,⟨ex,υ,L2,rfl,hq,mV⟩,uY⟩:=h w0 B a w L g r bf (.inLoop b::k) cs;rcases hq with⟨rfl,hs⟩|⟨kV,hq⟩
 .obtain ⟨e₂,a₂,w₂,KA,J2⟩:=hs w0 B a₁ w₁ L2 g mV bf k cs;exact⟨e₂,a₂,w₂,KA,.of_steps (Steps.trans uY (.one step_inLoop)) J2⟩
 .cases ex with
  |normal=>exact absurd rfl kV
  |exit i=>exact⟨_,a₁,w₁,⟨.exit i,υ,L2,rfl,hq,mV⟩,.pass (x:=.inLoop b) rfl (λ_ _=>.inl (by simp[Ex.to])) uY⟩
  |ret=>exact⟨_,a₁,w₁,⟨.ret,υ,L2,rfl,hq,mV⟩,.pass (x:=.inLoop b) rfl (λ_ _=>.inl (by simp[Ex.to])) uY⟩
def Jv(hT:me P T)(hm:P.follows .mixedOrders=true){c:Code}{σ:PS}{t:Tr P K}{k:Ex->PS->Tr P K->R}(h:(uc T c σ t k).ok):Sp P K c σ (λe τ=>∃ t',(k e τ t').ok):=by
 induction c generalizing σ t k with
 |skip=>exact λw0 B a w L g r=>wp_skip ⟨.normal,_,L,rfl,⟨t,h⟩,r⟩
 |region id gI d=>
  obtain⟨vs,τ,t',h1,h2,h3,h4⟩:=ael h;split at h4
  .rename_i hp;simp only[List.append_nil,List.reverse_reverse]at hp;exact λw0 B a w L g r=>agE hT hm g h1 h2 h3 hp r λa' w' L' hr=>⟨.normal,τ,L',rfl,⟨t',h4⟩,hr⟩
  .exact h4.elim
 |seq x y KL KM=>
  intro w0 B a w L g r;refine wp_seq (Code.wp_mono ?_ (KL h w0 B a w L g r));rintro ex a' w' ⟨e1,τ1,L',rfl,⟨t',ht⟩,hr⟩;cases e1 with
  |normal=>exact KM ht w0 B a' w' L' g hr
  |exit i=>exact⟨.exit i,τ1,L',rfl,⟨t',ht⟩,hr⟩
  |ret=>exact⟨.ret,τ1,L',rfl,⟨t',ht⟩,hr⟩
 |cond c x y KL KM=>
  obtain⟨t1,τ,hle,h1⟩:=Am h;refine Sp.pre hle (RQ (λσ t k h=>?_) h1);obtain⟨t1,τ,hle,h1⟩:=Am h;refine Sp.pre hle ?_;split at h1
  .rename_i hc;intro w0 B a w L g r;have hv:=r.op c;rw[hc]at hv;exact wp_cond_true (iz.kE hv) (KL h1 w0 B a w L g r)
  .rename_i hc;intro w0 B a w L g r;have hv:=r.op c;rw[hc]at hv;exact wp_cond_false (iz.kE hv) (KM h1 w0 B a w L g r)
  .exact h1.elim
 |block id b ih=>
  obtain⟨t1,τ,hle,h1⟩:=Am h;refine Sp.pre hle (RQ (λσ t k h=>?_) h1);intro w0 B a w L g r;refine wp_block (Code.wp_mono ?_ (ih h w0 B a w L g r));rintro ex a' w' ⟨e1,τ1,L',rfl,⟨t',ht⟩,hr⟩;cases e1 with
  |normal=>exact⟨.normal,_,L',rfl,⟨t',ht⟩,hr⟩
  |ret=>exact⟨.ret,_,L',rfl,⟨t',ht⟩,hr⟩
  |exit i=>
   simp only at ht;show Exit.inBlock id _ (.exit i) a' w';split at ht
   .rename_i hi;have hi:=mz.1 hi;subst hi;simp only[Exit.inBlock,bI];exact⟨.normal,_,L',rfl,⟨t',ht⟩,hr⟩
   .rename_i hi;have hi:i≠id:=λe=>hi (mz.2 e)
    simp only[Exit.inBlock,hi,bF];exact⟨.exit i,_,L',rfl,⟨t',ht⟩,hr⟩
 |label l=>exact λw0 B a w L g r=>wp_label ⟨.normal,_,L,rfl,⟨t,h⟩,r⟩
 |scope b ih=>
  intro w0 B a w L g r;refine wp_scope_straight (Code.wp_mono ?_ (ih h w0 B a w L g r));rintro ex a' w' ⟨e1,τ1,L',rfl,⟨t',ht⟩,hr⟩;cases e1 with
  |normal=>exact⟨.normal,τ1,L',rfl,⟨t',ht⟩,hr⟩
  |ret=>exact⟨.ret,τ1,L',rfl,⟨t',ht⟩,hr⟩
  |exit i=>exact⟨.exit i,τ1,L',rfl,⟨t',ht⟩,hr⟩
 |exit id=>
  obtain⟨t1,τ,hle,h1⟩:=Am h;exact Sp.pre hle λw0 B a w L g r=>wp_exit ⟨.exit id,_,L,rfl,⟨t1,h1⟩,r⟩
 |ret=>
  obtain⟨t1,τ,hle,h1⟩:=Am h;exact Sp.pre hle λw0 B a w L g r=>wp_ret ⟨.ret,_,L,rfl,⟨t1,h1⟩,r⟩
 |loop b ih=>
  obtain⟨t1,τ,hle,h1⟩:=Am h;refine Sp.pre hle ?_;split at h1
  .rename_i n t;clear hle h;refine uP.loop ?_
   induction n generalizing τ t with
   |zero=>exact h1.elim
   |succ n ihn=>
    obtain⟨t2,τ2,hle,h1⟩:=Am h1;refine uP.pre hle (uP.step ((ih h1).mono λe υ ⟨t',ht⟩=>?_));cases e with
    |normal=>exact .inl ⟨rfl,ihn _ _ ht⟩
    |exit i=>exact .inr ⟨aJ,t',ht⟩
    |ret=>exact .inr ⟨aJ,t',ht⟩
  .exact ahY h1
 |_=>exact h.elim
def Sp.tr(hT:me P T)(hm:P.follows .mixedOrders=true){c:Code}{σ τ:PS}{e:Ex}(t:Tr P K)(h:uc T c σ t (CR e τ)=t.ex λt=>Cs τ t .nil):
 Sp P K c σ (λe' τ'=>e'=e/\τ'=τ):=by
 have hk:=Tr.JA (fin:=λt=>Cs τ t .nil) (λt=>Mu trivial) t;rw[<-h]at hk;refine(Jv hT hm hk).post λe' υ ⟨t',ht⟩=>?_
 obtain⟨he,hl⟩:=O6 ht;exact⟨τ,hl,he,rfl⟩
def Pt(T:List TI)(fn:Func)(jQ:E)(e:Ex)(τ:PS)(_:Tr P K):R:=match e with
 | .exit _=>.jv
 |_=>match Hk T fn τ with
  |some r=>.a (E.le r jQ) .nil
  |none=>.jv
def L8(T:List TI)(fn:Func)(nl:Bool)(args:List E)(jQ:E)(t:Tr P K):R:=match fn.body with
 |some c=>if Nat.ble args.length fn.ntmps then uc T c (yx fn nl args) t (Pt T fn jQ)else .jv
 |none=>.jv
def PC.MA(hT:me P T)(hm:P.follows .mixedOrders=true)(hp:∀ w w',K w->Below w.heap.size w w'->K w'){f:FuncId}{fn:Func}{args:List E}{jQ:E}(vc:∀ (vs:Array Value) (w:World),(callFunc f vs).run P w = .ok (.enter f vs) w)
 (hf:P.funcs[f]? = some fn) (nl:Bool) (t:Tr P K) (h:L8 T fn nl args jQ t=t.ex λ_=>.a (E.le jQ jQ) .nil):PC P K f args jQ:=by
 have hk:=Tr.JA (fin:=λ_=>.a (E.le jQ jQ) .nil) (λt=>⟨E.le.refl jQ,trivial⟩) t;rw[<-h]at hk;unfold L8 at hk;split at hk
 .rename_i c hb;split at hk
  .rename_i hn;refine PC.Ld hT hm hp vc hf hb (cU hn) nl ((Jv hT hm hk).mono λe τ ⟨t',ht⟩=>?_);unfold Pt at ht;split at ht
   .exact ht.elim
   .rename_i kV;split at ht
    .rename_i r hr;refine⟨?_,r,hr,ht.1⟩;cases e with
     |normal=>exact .inr rfl
     |ret=>exact .inl rfl
     |exit i=>exact absurd rfl (kV i)
    .exact ht.elim
  .exact hk.elim
 .exact hk.elim
def Ps(fn:Func)(b:Bx)(e:Ex)(τ:PS)(_:Tr P K):R:=match e with
 | .exit _=>.jv
 |_=>match fn.results.toList with
  | [.tmp t]=>match τ.get t with
   | .own id=>match τ.bo id with
    |some c=>.a (Bx.le c b) .nil
    |none=>.jv
   |_=>.jv
  |_=>.jv
def L7(T:List TI)(fn:Func)(args:List E)(b:Bx)(t:Tr P K):R:=match fn.body with
 |some c=>if Nat.ble args.length fn.ntmps then uc T c (yx fn true args) t (Ps fn b)else .jv
 |none=>.jv
def tK.MA(hT:me P T)(hm:P.follows .mixedOrders=true)(hp:∀ w w',K w->Below w.heap.size w w'->K w'){f:FuncId}{fn:Func}{args:List E}{nl:Bool}{T0:TypeId}{n sz:Nat}{el:Nat->Nat->E}(vc:∀ (vs:Array Value) (w:World),(callFunc f vs).run P w = .ok (.enter f vs) w)
 (hf:P.funcs[f]? = some fn) (t:Tr P K) (h:L7 T fn args (.row nl T0 n sz el) t=t.ex λ_=>.a (Bx.le (.row nl T0 n sz el) (.row nl T0 n sz el)) .nil):tK P K f args nl T0 n sz el:=by
 have hk:=Tr.JA (fin:=λ_=>.a (Bx.le (.row nl T0 n sz el) (.row nl T0 n sz el)) .nil) (λt=>⟨Bx.le.refl _,trivial⟩) t;rw[<-h]at hk;unfold L7 at hk;split at hk
 .rename_i c hb;split at hk
  .rename_i hn;refine tK.Ld hT hm hp vc hf hb (cU hn) true ((Jv hT hm hk).mono λe τ ⟨t',ht⟩=>?_);unfold Ps at ht;split at ht
   .exact ht.elim
   .rename_i kV;split at ht
    .rename_i t0 hr;split at ht
     .rename_i id hg;split at ht
      .rename_i c' hc;refine⟨?_,t0,id,c',hr,hg,hc,λbs br L w hk=>ht.1.2 _ _ _ _ _ hk⟩;cases e with
       |normal=>exact .inr rfl
       |ret=>exact .inl rfl
       |exit i=>exact absurd rfl (kV i)
      .exact ht.elim
     .exact ht.elim
    .exact ht.elim
  .exact hk.elim
 .exact hk.elim
def Sp.iG{b:Code}{e:Ex}{τ:PS}(f:Nat->PS)(lo hi:Nat)(h0:lo<=hi)(go:∀ x,(lo<=x/\x<=hi)->x<hi->Sp P K b (f x) (λe' υ=>e' = .normal/\υ=f (x+1)))
 (out:(lo<=hi/\hi<=hi)->Sp P K b (f hi) (λe' υ=>e'=e/\υ=τ)) (he:e ≠ .normal):Sp P K (.loop b) (f lo) (λe' υ=>e'=e/\υ=τ):=by
 refine Sp.fam f (λx=>lo<=x/\x<=hi) (λx=>hi-x) (λx hx=>?_) lo ⟨bp _,h0⟩ (PS.le.refl _);rcases Nat.lt_or_eq_of_le hx.2 with iE|heq
 .exact Sp.aah (x+1) (go x hx iE) ⟨aD,aD⟩ aD (PS.le.refl _)
 .subst heq;exact Sp.aai (out hx) he (PS.le.refl _)
def gW(z:Int)(h:-9223372036854775808<=z/\z<=9223372036854775807):Tr P K->Tr P K:=.a (p:=ko .i64 z) h
def oF(z:Int)(h:0<=z/\z<=18446744073709551615):Tr P K->Tr P K:=.a (p:=ko .u64 z) h
def iX(z:Int)(n:Nat)(h:0<=z/\z<n):Tr P K->Tr P K:=.a h
def tB(d:Nat){a b:Bool}(h:a=b):Tr P K->Tr P K:=.o d (PV.le.bool h)
def ag(d:Nat)(a:Bool)(h:a=true):Tr P K->Tr P K:=tB d h
def ah(d:Nat)(a:Bool)(h:a=false):Tr P K->Tr P K:=tB d h
def tT(d:Nat)(p:Prop)[Decidable p](h:p):Tr P K->Tr P K:=.o d (PV.le.bool (bk h))
def tF(d:Nat)(p:Prop)[Decidable p](h:¬p):Tr P K->Tr P K:=.o d (PV.le.bool (bl h))
def tU{b:Bool}(h:b=true):(!b)=false:=by rw[h];rfl
def tS{b:Bool}(h:b=false):(!b)=true:=by rw[h];rfl
def rQ(p q:E)(h:p=q):Tr P K:=.r (E.le.iD h)
def rR(q:E){p:E}(h:E.le p q):Tr P K:=.r h
def aa(l:List (Tr P K->Tr P K))(t:Tr P K):Tr P K:=l.foldr (λf t=>f t) t
def ae(l:List (Tr P K->Tr P K)):Tr P K:=aa l .nil
end
end Go.Proofs.YtkjkcjhacddojaaGreatDoor.Pu
namespace Go.Proofs.YtkjkcjhacddojaaGreatDoor
open Go.RowKit Fp Pu
def tr(nl:Bool){f:FuncId}{fn:Func}{args:List E}{jQ:E}(vc:∀ (vs:Array Value) (w:World),(callFunc f vs).run prog w = .ok (.enter f vs) w)
 (hf:prog.funcs[f]? = some fn) (t:Tr prog Tb) (h:L8 TT fn nl args jQ t=t.ex λ_=>.a (E.le jQ jQ) .nil):gJ f args jQ:=
 PC.MA zg mixed MU vc hf nl t h
def af(args:List E){f:FuncId}{ko:E}(h:gJ f args ko):Tr prog Tb->Tr prog Tb:=.c h
def aj{f:FuncId}{fn:Func}{args:List E}{jQ:E}(vc:∀ (vs:Array Value) (w:World),(callFunc f vs).run prog w = .ok (.enter f vs) w)
 (hf:prog.funcs[f]? = some fn) (t:Tr prog Tb) (h:L8 TT fn true args jQ t=t.ex λ_=>.a (E.le jQ jQ) .nil:=by kernel_rfl):gJ f args jQ:=tr true vc hf t h
def ak{f:FuncId}{fn:Func}{args:List E}{jQ:E}(vc:∀ (vs:Array Value) (w:World),(callFunc f vs).run prog w = .ok (.enter f vs) w)
 (hf:prog.funcs[f]? = some fn) (t:Tr prog Tb) (h:L8 TT fn false args jQ t=t.ex λ_=>.a (E.le jQ jQ) .nil:=by kernel_rfl):gJ f args jQ:=tr false vc hf t h
def gX{c:Code}{σ τ:PS}{e:Ex}(t:Tr prog Tb)(h:uc TT c σ t (CR e τ)=t.ex λt=>Cs τ t .nil):
 Sp prog Tb c σ (λe' τ'=>e'=e/\τ'=τ):=Sp.tr zg mixed t h
abbrev iF(k:Nat)(fn:Func)(σ:PS)(e:Ex)(τ:PS):Prop:=Sp prog Tb (.loop (XU k fn)) σ (λe' τ'=>e'=e/\τ'=τ)
def Ru(nl:Bool)(n N:Nat)(el:Nat->Nat->E)(g:FuncId)(cap:List E)(i:Nat):PS:=⟨19,false,[(8,.e (iP i)),(7,.e (iP n)),(0,.e (.sl nl n 1 el)),(1,.e (.fn g cap))],[]⟩
def Rt(nl:Bool)(n:Nat)(el:Nat->Nat->E)(g:FuncId)(cap:List E)(i:Nat):PS:=⟨19,false,[(8,.e (iP i)),(7,.e (iP n)),(0,.e (.sl nl n 1 el)),(1,.e (.fn g cap))],[]⟩
def RX(nl:Bool)(n:Nat)(el:Nat->Nat->E)(g:FuncId)(cap:List E)(i:Nat):PS:=⟨19,false,[(8,.e (iP i)),(7,.e (iP n)),(0,.e (.sl nl n 1 el)),(1,.e (.fn g cap))],[]⟩
def RG(nl:Bool)(n N:Nat)(el:Nat->Nat->E)(g:FuncId)(cap:List E)(i:Nat):PS:=⟨19,false,[(8,.e (iP i)),(7,.e (iP n)),(0,.e (.sl nl n 7 el)),(1,.e (.fn g cap))],[]⟩
def RF(nl:Bool)(n:Nat)(el:Nat->Nat->E)(g:FuncId)(cap:List E)(i:Nat):PS:=⟨19,false,[(8,.e (iP i)),(7,.e (iP n)),(0,.e (.sl nl n 7 el)),(1,.e (.fn g cap))],[]⟩
def Vm(nl:Bool)(n N:Nat)(el:Nat->Nat->E)(g:FuncId)(cap:List E)(i:Nat):PS:=⟨19,false,[(8,.e (iP i)),(7,.e (iP n)),(0,.e (.sl nl n 1 el)),(1,.e (.fn g cap))],[]⟩
def Vl(nl:Bool)(n:Nat)(el:Nat->Nat->E)(g:FuncId)(cap:List E)(i:Nat):PS:=⟨19,false,[(8,.e (iP i)),(7,.e (iP n)),(0,.e (.sl nl n 1 el)),(1,.e (.fn g cap))],[]⟩
def pX{p:Nat->Bool}{n:Nat}(h:∃ i,i<n/\p i=true):∃ N,N<n/\p N=true/\∀ i,i<N->p i=false:=by
 induction n with
 |zero=>obtain⟨i,h1,_⟩:=h;omega
 |succ n ih=>
  by_cases hn:∃ i,i<n/\p i=true
  .obtain ⟨N,h1,h2,h3⟩:=ih hn;exact⟨N,aD,h2,h3⟩
  .obtain ⟨i,h1,h2⟩:=h;have:i=n:=by
    by_cases q:i=n
    .exact q
    .exact absurd ⟨i,aD,h2⟩ hn
   subst this;exact⟨i,h1,h2,λj hj=>by simpa using λq=>hn ⟨j,hj,q⟩⟩
def ab9(nl:Bool)(n:Nat)(el:Nat->Nat->E)(g:FuncId)(cap:List E)(p:Nat->Bool)(hp:∀ i,i<n->gJ g ((el i 0)::cap) (bP (p i)))(N:Nat)(hl:n<=1000000)(mA:N<n)(iJ:∀ i,i<N->p i=false)(hN:p N=true):gJ 284 [.sl nl n 1 el,.fn g cap] (iP N):=
 ak call284 func284 (ae [.s (Sp.iG (Ru nl n N el g cap) 0 N aD (λi hi rq=>by
    exact gX (ae [tT 9 ((i:Int)<n) aD,iX (i:Int) n aD,.c (hp i aD:gJ g ((el i 0)::cap) _),ah 16 (p i) (iJ i aD),gW ((i:Int)+1) aD]) aG)
  (λhi=>by
    exact gX (ae [tT 9 ((N:Int)<n) aD,iX (N:Int) n aD,.c (hp N aD:gJ g ((el N 0)::cap) _),ag 16 (p N) hN]) aG) aK:iF 2 f284 (Ru nl n N el g cap 0) .ret ⟨19,false,[(4,.e (iP N))],[]⟩) .nil]) 
def acb(nl:Bool)(n:Nat)(el:Nat->Nat->E)(g:FuncId)(cap:List E)(p:Nat->Bool)(hp:∀ i,i<n->gJ g ((el i 0)::cap) (bP (p i)))(hl:n<=1000000)(iJ:∀ i,i<n->p i=false):gJ 284 [.sl nl n 1 el,.fn g cap] (iP (-1)):=
 ak call284 func284 (ae [.s (Sp.iG (Rt nl n el g cap) 0 n aD (λi hi rq=>by
    exact gX (ae [tT 9 ((i:Int)<n) aD,iX (i:Int) n aD,.c (hp i aD:gJ g ((el i 0)::cap) _),ah 16 (p i) (iJ i aD),gW ((i:Int)+1) aD]) aG)
  (λhi=>by
    exact gX (ae [tF 9 ((n:Int)<n) aD]) aG) aK:iF 2 f284 (Rt nl n el g cap 0) (.exit 0) ⟨19,false,[],[]⟩) .nil]) 
def aca(nl:Bool)(n:Nat)(el:Nat->Nat->E)(g:FuncId)(cap:List E)(p:Nat->Bool)(hp:∀ i,i<n->gJ g ((el i 0)::cap) (bP (p i)))(N:Nat)(hl:n<=1000000)(mA:N<n)(iJ:∀ i,i<N->p i=false)(hN:p N=true):gJ 232 [.sl nl n 1 el,.fn g cap] (bP true):=
 ak call232 func232 (ae [af [.sl nl n 1 el,.fn g cap] (ab9 nl n el g cap p hp N hl mA iJ hN),tT 8 (0<=(N:Int)) aD]) 
def KQ(nl:Bool)(n:Nat)(el:Nat->Nat->E)(g:FuncId)(cap:List E)(p:Nat->Bool)(hp:∀ i,i<n->gJ g ((el i 0)::cap) (bP (p i)))(hl:n<=1000000)(iJ:∀ i,i<n->p i=false):gJ 232 [.sl nl n 1 el,.fn g cap] (bP false):=
 ak call232 func232 (ae [af [.sl nl n 1 el,.fn g cap] (acb nl n el g cap p hp hl iJ),ah 8 (decide ((0:Int)<=(-1))) aF]) 
def ab8(nl:Bool)(n:Nat)(el:Nat->Nat->E)(g:FuncId)(cap:List E)(p:Nat->Bool)(hp:∀ i,i<n->gJ g ((el i 0)::cap) (bP (p i)))(hl:n<=1000000):gJ 232 [.sl nl n 1 el,.fn g cap] (bP ((List.range n).any p)):=by
 by_cases h:∃ i,i<n/\p i=true
 .obtain ⟨N,h1,h2,h3⟩:∃ N,N<n/\p N=true/\∀ i,i<N->p i=false:=pX h;refine(aca nl n el g cap p hp N hl h1 h3 h2).jQ (.iD ?_);rw[cE.2 ⟨N,bD.2 h1,h2⟩]
 .refine (KQ nl n el g cap p hp hl λi hi=>by simpa using λq=>h ⟨i,hi,q⟩).jQ (.iD ?_);rw[c9.2 λi hi q=>h ⟨i,bD.1 hi,q⟩]
def acW(nl:Bool)(n:Nat)(el:Nat->Nat->E)(g:FuncId)(cap:List E)(p:Nat->Bool)(hp:∀ i,i<n->gJ g ((el i 0)::cap) (bP (p i)))(hl:n<=1000000)(iJ:∀ i,i<n->p i=false):gJ 358 [.sl nl n 1 el,.fn g cap] (iP (-1)):=
 ak call358 func358 (ae [.s (Sp.iG (RX nl n el g cap) 0 n aD (λi hi rq=>by
    exact gX (ae [tT 9 ((i:Int)<n) aD,iX (i:Int) n aD,.c (hp i aD:gJ g ((el i 0)::cap) _),ah 16 (p i) (iJ i aD),gW ((i:Int)+1) aD]) aG)
  (λhi=>by
    exact gX (ae [tF 9 ((n:Int)<n) aD]) aG) aK:iF 2 f358 (RX nl n el g cap 0) (.exit 0) ⟨19,false,[],[]⟩) .nil]) 
def acR(nl:Bool)(n:Nat)(el:Nat->Nat->E)(g:FuncId)(cap:List E)(p:Nat->Bool)(hp:∀ i,i<n->gJ g ((el i 0)::cap) (bP (p i)))(hl:n<=1000000)(iJ:∀ i,i<n->p i=false):gJ 309 [.sl nl n 1 el,.fn g cap] (bP false):=
 ak call309 func309 (ae [af [.sl nl n 1 el,.fn g cap] (acW nl n el g cap p hp hl iJ),ah 8 (decide ((0:Int)<=(-1))) aF]) 
def acr(nl:Bool)(n:Nat)(el:Nat->Nat->E)(g:FuncId)(cap:List E)(p:Nat->Bool)(hp:∀ i,i<n->gJ g ((.agg [el i 0,el i 1,el i 2,el i 3,el i 4,el i 5,el i 6])::cap) (bP (p i)))(N:Nat)(hl:n<=1000000)(mA:N<n)(iJ:∀ i,i<N->p i=false)(hN:p N=true):gJ 87 [.sl nl n 7 el,.fn g cap] (iP N):=
 ak call87 func87 (ae [.s (Sp.iG (RG nl n N el g cap) 0 N aD (λi hi rq=>by
    exact gX (ae [tT 9 ((i:Int)<n) aD,iX (i:Int) n aD,.c (hp i aD:gJ g ((.agg [el i 0,el i 1,el i 2,el i 3,el i 4,el i 5,el i 6])::cap) _),ah 16 (p i) (iJ i aD),gW ((i:Int)+1) aD]) aG)
  (λhi=>by
    exact gX (ae [tT 9 ((N:Int)<n) aD,iX (N:Int) n aD,.c (hp N aD:gJ g ((.agg [el N 0,el N 1,el N 2,el N 3,el N 4,el N 5,el N 6])::cap) _),ag 16 (p N) hN]) aG) aK:iF 2 Tryz.f87 (RG nl n N el g cap 0) .ret ⟨19,false,[(4,.e (iP N))],[]⟩) .nil]) 
def acu(nl:Bool)(n:Nat)(el:Nat->Nat->E)(g:FuncId)(cap:List E)(p:Nat->Bool)(hp:∀ i,i<n->gJ g ((.agg [el i 0,el i 1,el i 2,el i 3,el i 4,el i 5,el i 6])::cap) (bP (p i)))(hl:n<=1000000)(iJ:∀ i,i<n->p i=false):gJ 87 [.sl nl n 7 el,.fn g cap] (iP (-1)):=
 ak call87 func87 (ae [.s (Sp.iG (RF nl n el g cap) 0 n aD (λi hi rq=>by
    exact gX (ae [tT 9 ((i:Int)<n) aD,iX (i:Int) n aD,.c (hp i aD:gJ g ((.agg [el i 0,el i 1,el i 2,el i 3,el i 4,el i 5,el i 6])::cap) _),ah 16 (p i) (iJ i aD),gW ((i:Int)+1) aD]) aG)
  (λhi=>by
    exact gX (ae [tF 9 ((n:Int)<n) aD]) aG) aK:iF 2 Tryz.f87 (RF nl n el g cap 0) (.exit 0) ⟨19,false,[],[]⟩) .nil]) 
def acs(nl:Bool)(n:Nat)(el:Nat->Nat->E)(g:FuncId)(cap:List E)(p:Nat->Bool)(hp:∀ i,i<n->gJ g ((.agg [el i 0,el i 1,el i 2,el i 3,el i 4,el i 5,el i 6])::cap) (bP (p i)))(N:Nat)(hl:n<=1000000)(mA:N<n)(iJ:∀ i,i<N->p i=false)(hN:p N=true):gJ 40 [.sl nl n 7 el,.fn g cap] (bP true):=
 ak call40 func40 (ae [af [.sl nl n 7 el,.fn g cap] (acr nl n el g cap p hp N hl mA iJ hN),tT 8 (0<=(N:Int)) aD]) 
def Ab(nl:Bool)(n:Nat)(el:Nat->Nat->E)(g:FuncId)(cap:List E)(p:Nat->Bool)(hp:∀ i,i<n->gJ g ((.agg [el i 0,el i 1,el i 2,el i 3,el i 4,el i 5,el i 6])::cap) (bP (p i)))(hl:n<=1000000)(iJ:∀ i,i<n->p i=false):gJ 40 [.sl nl n 7 el,.fn g cap] (bP false):=
 ak call40 func40 (ae [af [.sl nl n 7 el,.fn g cap] (acu nl n el g cap p hp hl iJ),ah 8 (decide ((0:Int)<=(-1))) aF]) 
def yB(nl:Bool)(n:Nat)(el:Nat->Nat->E)(g:FuncId)(cap:List E)(p:Nat->Bool)(hp:∀ i,i<n->gJ g ((.agg [el i 0,el i 1,el i 2,el i 3,el i 4,el i 5,el i 6])::cap) (bP (p i)))(hl:n<=1000000):gJ 40 [.sl nl n 7 el,.fn g cap] (bP ((List.range n).any p)):=by
 by_cases h:∃ i,i<n/\p i=true
 .obtain ⟨N,h1,h2,h3⟩:∃ N,N<n/\p N=true/\∀ i,i<N->p i=false:=pX h;refine(acs nl n el g cap p hp N hl h1 h3 h2).jQ (.iD ?_);rw[cE.2 ⟨N,bD.2 h1,h2⟩]
 .refine (Ab nl n el g cap p hp hl λi hi=>by simpa using λq=>h ⟨i,hi,q⟩).jQ (.iD ?_);rw[c9.2 λi hi q=>h ⟨i,bD.1 hi,q⟩]
def ag0(nl:Bool)(n:Nat)(el:Nat->Nat->E)(g:FuncId)(cap:List E)(p:Nat->Bool)(hp:∀ i,i<n->gJ g ((el i 0)::cap) (bP (p i)))(N:Nat)(hl:n<=1000000)(mA:N<n)(iJ:∀ i,i<N->p i=false)(hN:p N=true):gJ 240 [.sl nl n 1 el,.fn g cap] (iP N):=
 ak call240 func240 (ae [.s (Sp.iG (Vm nl n N el g cap) 0 N aD (λi hi rq=>by
    exact gX (ae [tT 9 ((i:Int)<n) aD,iX (i:Int) n aD,.c (hp i aD:gJ g ((el i 0)::cap) _),ah 16 (p i) (iJ i aD),gW ((i:Int)+1) aD]) aG)
  (λhi=>by
    exact gX (ae [tT 9 ((N:Int)<n) aD,iX (N:Int) n aD,.c (hp N aD:gJ g ((el N 0)::cap) _),ag 16 (p N) hN]) aG) aK:iF 2 f240 (Vm nl n N el g cap 0) .ret ⟨19,false,[(4,.e (iP N))],[]⟩) .nil]) 
def ag3(nl:Bool)(n:Nat)(el:Nat->Nat->E)(g:FuncId)(cap:List E)(p:Nat->Bool)(hp:∀ i,i<n->gJ g ((el i 0)::cap) (bP (p i)))(hl:n<=1000000)(iJ:∀ i,i<n->p i=false):gJ 240 [.sl nl n 1 el,.fn g cap] (iP (-1)):=
 ak call240 func240 (ae [.s (Sp.iG (Vl nl n el g cap) 0 n aD (λi hi rq=>by
    exact gX (ae [tT 9 ((i:Int)<n) aD,iX (i:Int) n aD,.c (hp i aD:gJ g ((el i 0)::cap) _),ah 16 (p i) (iJ i aD),gW ((i:Int)+1) aD]) aG)
  (λhi=>by
    exact gX (ae [tF 9 ((n:Int)<n) aD]) aG) aK:iF 2 f240 (Vl nl n el g cap 0) (.exit 0) ⟨19,false,[],[]⟩) .nil]) 
def ag1(nl:Bool)(n:Nat)(el:Nat->Nat->E)(g:FuncId)(cap:List E)(p:Nat->Bool)(hp:∀ i,i<n->gJ g ((el i 0)::cap) (bP (p i)))(N:Nat)(hl:n<=1000000)(mA:N<n)(iJ:∀ i,i<N->p i=false)(hN:p N=true):gJ 163 [.sl nl n 1 el,.fn g cap] (bP true):=
 ak call163 func163 (ae [af [.sl nl n 1 el,.fn g cap] (ag0 nl n el g cap p hp N hl mA iJ hN),tT 8 (0<=(N:Int)) aD]) 
def ag2(nl:Bool)(n:Nat)(el:Nat->Nat->E)(g:FuncId)(cap:List E)(p:Nat->Bool)(hp:∀ i,i<n->gJ g ((el i 0)::cap) (bP (p i)))(hl:n<=1000000)(iJ:∀ i,i<n->p i=false):gJ 163 [.sl nl n 1 el,.fn g cap] (bP false):=
 ak call163 func163 (ae [af [.sl nl n 1 el,.fn g cap] (ag3 nl n el g cap p hp hl iJ),ah 8 (decide ((0:Int)<=(-1))) aF]) 
def Hq(nl:Bool)(n:Nat)(el:Nat->Nat->E)(g:FuncId)(cap:List E)(p:Nat->Bool)(hp:∀ i,i<n->gJ g ((el i 0)::cap) (bP (p i)))(hl:n<=1000000):gJ 163 [.sl nl n 1 el,.fn g cap] (bP ((List.range n).any p)):=by
 by_cases h:∃ i,i<n/\p i=true
 .obtain ⟨N,h1,h2,h3⟩:∃ N,N<n/\p N=true/\∀ i,i<N->p i=false:=pX h;refine(ag1 nl n el g cap p hp N hl h1 h3 h2).jQ (.iD ?_);rw[cE.2 ⟨N,bD.2 h1,h2⟩]
 .refine (ag2 nl n el g cap p hp hl λi hi=>by simpa using λq=>h ⟨i,hi,q⟩).jQ (.iD ?_);rw[c9.2 λi hi q=>h ⟨i,bD.1 hi,q⟩]
end Go.Proofs.YtkjkcjhacddojaaGreatDoor
namespace Go.Proofs.YtkjkcjhacddojaaGreatDoor.Fp
def NL{s:Bool}{m:Nat}{e:Int}(hm:gU m<=60000)(lh:-60000<=e)(kF:e<=60000):(gK (canon s m e).m).length<=2900 /\ -200000<=(canon s m e).e/\(canon s m e).e<=200000:=by
 by_cases h0:m=0
 .subst h0;rw[A4];exact⟨by rw[show ix.m=0 from rfl,nt];decide,aF,aF⟩
 .obtain ⟨h1,h2,h3,h4⟩:=zq (s:=s) (e:=e) h0;have h5:=mZ h3;exact⟨BJ aD,aD,aD⟩
def aeA{a b:Dy}(ha:a.gQ)(hb:b.gQ):(gK (kG a b).m).length<=2900 /\ -200000<=(kG a b).e/\(kG a b).e<=200000:=by
 have h1:=ha.bits;have h2:=hb.bits;have h3:=ha.exp;have h4:=hb.exp;have h5:gU (a.m*b.m)<=gU a.m+gU b.m:=by
  rw[kB,bq];exact gw (px a.m) (px b.m)
 exact NL aD aD aD 
def S2{a:Dy}{k:Int}(h:k<=a.e):gU (a.num k).natAbs<=gU a.m+(a.e-k).toNat:=by
 have e:(a.num k).natAbs=a.m*2^(a.e-k).toNat:=by
  unfold Dy.num Dy.jP;split
  .rw [fj];exact dc _
  .exact dc _
 rw[e];by_cases h0:a.m=0
 .rw [h0,cB];exact b6 _
 .rw [qw h0];exact bp _
def ah7{a b:Dy}(ha:a.gQ)(hb:b.gQ):(gK (iM a b).m).length<=2900 /\ -200000<=(iM a b).e/\(iM a b).e<=200000:=by
 have h1:=ha.bits;have h2:=hb.bits;have h3:=ha.exp;have h4:=hb.exp;have la:=ha.len;have lb:=hb.len;unfold iM;split
 .exact ⟨aD,aD,aD⟩
 .split
  .exact ⟨aD,aD,aD⟩
  .have g1:=S2 (a:=a) (k:=min a.e b.e) aD ;have g2:=S2 (a:=b) (k:=min a.e b.e) aD;refine NL ?_ aD aD;obtain⟨K,hK⟩:∃ K,K=40000:=⟨_,rfl⟩
   have g3:=kB.1 (bM g1 (aD:gU a.m+(a.e-min a.e b.e).toNat<=K));have g4:=kB.1 (bM g2 (aD:gU b.m+(b.e-min a.e b.e).toNat<=K));refine bM ((kB (k:=K+1)).2 ?_) (aD:K+1<=60000);have g5:(a.num (min a.e b.e)+b.num (min a.e b.e)).natAbs<=(a.num (min a.e b.e)).natAbs+(b.num (min a.e b.e)).natAbs:=Int.natAbs_add_le _ _;rw[bE];generalize 2^K=P at *
   omega
def N8{a b:Dy}(ha:a.gQ)(hb:b.gQ)(h:jh a b=0):a=b:=by
 have h1:mO a (min a.e b.e):=.inr aD;have h2:mO b (min a.e b.e):=.inr aD;rw[zt h1 h2]at h;refine Jl ha.canon hb.canon h1 h2 ?_;unfold tW at h;split at h
 .omega
 .split at h<;>omega
def GF{a b c:Dy}(ha:a.gQ)(hb:b.gQ)(hc:c.gQ)(h1:jh a c<=0)(h2:jh b c<=0)(h3:c=a\/c=b):iT a b=c:=by
 unfold iT;rcases h3 with rfl|rfl
 .rw [bh aD]
 .split
  .rfl
  .rename_i h;have:=wS a c;exact N8 ha hc aD 
def St{a b c:Dy}(ha:a.gQ)(hb:b.gQ)(hc:c.gQ)(h1:jh c a<=0)(h2:jh c b<=0)(h3:c=a\/c=b):iZ a b=c:=by
 unfold iZ;rcases h3 with rfl|rfl
 .have:=wS c b;rw[bh aD]
 .split
  .rfl
  .rename_i h;have:=wS a c;exact N8 ha hc aD 
def GR(d:Dy)(k:Int):(lg d).num k=((d.num k).natAbs:Int):=by
 unfold Dy.num Dy.jP lg;cases d.neg
 .simp;exact(dc (d.m*2^(d.e-k).toNat)).symm▸by simp
 .simp only[b9,bF,bI];rw[fj,dc]
def MX{d:Dy}(hd:d.lA){k:Int}(h:0<=d.num k):lg d=d:=by
 rcases hd with⟨h1,h2,h3⟩|h1
 .unfold lg;rw[<-h2]
 .cases hn:d.neg with
  |false=>unfold lg;rw[<-hn]
  |true=>
   have:0<d.jP k:=vr aD k;unfold Dy.num at h;rw[hn,bj rfl]at h;omega
def MY{d:Dy}(hd:d.lA){k:Int}(h:d.num k<=0):lg d=iB d:=by
 rcases hd with⟨h1,h2,h3⟩|h1
 .unfold lg iB;rw[h1,h2];simp
 .cases hn:d.neg with
  |true=>unfold lg iB;rw[hn];simp
  |false=>
   have:0<d.jP k:=vr aD k;unfold Dy.num at h;rw[hn,bh aF]at h;omega
def ac7{x:Iv}(h1:x.lo.gQ)(h2:x.hi.gQ)(h3:jh x.lo x.hi<=0):ku x=iT (iB x.lo) x.hi:=by
 obtain⟨k,ka,kb⟩:∃ k:Int,k<=x.lo.e/\k<=x.hi.e:=⟨min x.lo.e x.hi.e,aD,aD⟩
 have aL:mO x.lo k:=.inr ka;have aH:mO x.hi k:=.inr kb;have aN:mO (iB x.lo) k:=CD aL;have aA:mO (lg x.lo) k:=aL;have aB:mO (lg x.hi) k:=aH;have hle:=(nH aL aH).1 h3;have n1:=D3 (d:=x.lo) k;have n2:=GR x.lo k;have n3:=GR x.hi k;unfold ku;by_cases hc:0<jh x.hi (iB x.lo)
 .have e:iT (iB x.lo) x.hi=x.hi:=by unfold iT;rw[bj hc]
  have Bl:¬x.hi.num k<=(iB x.lo).num k:=λh=>by have:=(nH aH aN).2 h;omega
  rw[e];exact GF (rh h1) (rh h2) h2 ((nH aA aH).2 aD) ((nH aB aH).2 aD) (.inr (MX h2.canon (k:=k) aD).symm)
 .have e:iT (iB x.lo) x.hi=iB x.lo:=by unfold iT;rw[bh hc]
  have rV:x.hi.num k<=(iB x.lo).num k:=(nH aH aN).1 aD;rw[e];exact GF (rh h1) (rh h2) (pL h1) ((nH aA aN).2 aD) ((nH aB aN).2 aD) (.inl (MY h1.canon (k:=k) aD).symm)
def VL{d:Dy}(k:Int):(0<d.jc↔0<d.num k)/\(d.jc<0↔d.num k<0):=by
 obtain⟨h1,h2,h3⟩:=Lu (d:=d) k;rcases AN d with⟨_,h⟩|⟨_,_,h⟩|⟨_,_,h⟩
 .have:=h1 h;rw[h];omega
 .have:=h2 h;rw[h];omega
 .have:=h3 h;rw[h];omega
def adi{x:Iv}(ha:x.all=false)(h1:x.lo.gQ)(h2:x.hi.gQ)(h3:jh x.lo x.hi<=0):mW x=if lR x=0 then ix else iT x.lo (iB x.hi):=by
 unfold mW;by_cases hs:lR x=0
 .rw [bj hs,bj hs]
 .rw [bh hs,bh hs];obtain⟨k,ka,kb⟩:∃ k:Int,k<=x.lo.e/\k<=x.hi.e:=⟨min x.lo.e x.hi.e,aD,aD⟩
  have aL:mO x.lo k:=.inr ka;have aH:mO x.hi k:=.inr kb;have aN:mO (iB x.hi) k:=CD aH;have aA:mO (lg x.lo) k:=aL;have aB:mO (lg x.hi) k:=aH;have hle:=(nH aL aH).1 h3;have n1:=D3 (d:=x.hi) k;have n2:=GR x.lo k;have n3:=GR x.hi k;have sL:=VL (d:=x.lo) k;have sH:=VL (d:=x.hi) k;by_cases hp:0<x.lo.jc
  .have QS:=sL.1.1 hp;have e1:=MX h1.canon (k:=k) aD;rw[St (rh h1) (rh h2) h1 ((nH aL aA).2 aD) ((nH aL aB).2 aD) (.inl e1.symm)];exact(GF h1 (pL h2) h1 (yD _) ((nH aN aL).2 aD) (.inl rfl)).symm
  .have hn:x.hi.jc<0:=by
    apply bY;intro hn;unfold lR at hs;rw[ha,bh aF,bh hp,bh hn]at hs;exact hs rfl
   have qX:=sH.2.1 hn;have e1:=MY h2.canon (k:=k) aD;rw[St (rh h1) (rh h2) (pL h2) ((nH aN aA).2 aD) ((nH aN aB).2 aD) (.inr e1.symm)];exact(GF h1 (pL h2) (pL h2) ((nH aL aN).2 aD) (yD _) (.inr rfl)).symm
def nZ{a b:Dy}{p:Nat}{up:Bool}(hp:1<=p)(gS:p<=4096):(jU a b p up).gQ:=by
 unfold jU;split
 .exact re
 .exact lY _ _ _ _ _ _ hp gS
def Sv(a:Dy):iZ a a=a:=by unfold iZ;split<;>rfl
def Ss(a:Dy):iT a a=a:=by unfold iT;split<;>rfl
end Go.Proofs.YtkjkcjhacddojaaGreatDoor.Fp
namespace Go.Proofs.YtkjkcjhacddojaaGreatDoor
open Go.RowKit Fp Pu
def na(a b:Nat):Nat->Nat×Nat
 | 0=>(a,b)
 |n+1=>((na a b n).2,(na a b n).1%(na a b n).2)
def Pe(a b:Nat):∀ n,Nat.gcd (na a b n).1 (na a b n).2=Nat.gcd a b
 | 0=>rfl
 |n+1=>by
  rw[<-Pe a b n];show Nat.gcd (na a b n).2 ((na a b n).1%(na a b n).2)=_;rw[fA,<-Nat.gcd_rec,fA]
def Pf(a b:Nat):∀ n,(∀ i,i<n->(na a b i).2≠0)->(na a b n).2+n<=b
 | 0,_=>bp _
 |n+1,h=>by
  have h1:=h n (gE n);have h2:(na a b (n+1)).2<(na a b n).2:=bA _ (ep h1);have q:=Pf a b n (λi hi=>h i aD);omega
def ZN(a b:Nat):∃ N,(∀ x,x<N->(na a b x).2≠0)/\(na a b N).2=0:=by
 by_cases h:∃ N,N<b+2/\decide ((na a b N).2=0)=true
 .obtain ⟨N,h1,h2,h3⟩:=pX h;exact⟨N,λx hx=>by simpa using h3 x hx,by simpa using h2⟩
 .have hz:∀ i,i<b+2->(na a b i).2≠0:=λi hi q=>h ⟨i,hi,by simpa using q⟩
  have:=Pf a b (b+1) λi hi=>hz i aD 
  have:=hz (b+1) aD;omega
def Jr{a b:Nat}(ha:a<18446744073709551616)(hb:b<18446744073709551616):∀ n,(na a b n).1<18446744073709551616/\(na a b n).2<18446744073709551616
 | 0=>⟨ha,hb⟩
 |n+1=>⟨(Jr ha hb n).2,cC (fR _ _) (Jr ha hb n).1⟩
def pP(a D:Nat)(d:Dy):Int:=kv (a*2^(-d.e).toNat) (d.m*D*2^d.e.toNat)
def tD(n:Int):Int:=if 0<n then 1 else if n<0 then -1 else 0
def mw(N:Int)(D:Nat)(d:Dy):Int:=
 if tD N<d.jc then -1 else if d.jc<tD N then 1 else if tD N=0 then 0 else tD N*pP N.natAbs D d
def af3{a D:Nat}{d:Dy}(ha:a<=1073741824)(hD:1<=D)(d0:d.m≠0)(ht:32<(gU d.m:Int)+d.e):pP a D d = -1:=by
 have h1:2^(gU d.m-1)<=d.m:=qK d0;have hb:=mZ d0;have hm:d.m*2^d.e.toNat<=d.m*D*2^d.e.toNat:=bL _ (fG _ hD);have h2:2^(gU d.m-1+d.e.toNat)<=d.m*2^d.e.toNat:=by rw[bq];exact bL _ h1
 have h3:a*2^(-d.e).toNat<2^(31+(-d.e).toNat):=by rw[bq];exact cO aD (Nat.two_pow_pos _)
 have h4:2^(31+(-d.e).toNat)<=2^(gU d.m-1+d.e.toNat):=bG aF aD;unfold pP kv;rw[bj aD]
def af4{a D:Nat}{d:Dy}(ha:a≠0)(hD:D<=1073741824)(ht:(gU d.m:Int)+d.e < -32):pP a D d=1:=by
 have h1:d.m<2^gU d.m:=px _;have e0:d.e.toNat=0:= aD ;have h2:d.m*D<=2^gU d.m*2^30:=di aD aD;have h4:2^(gU d.m+30)<2^(-d.e).toNat:=eH aF aD;have h5:2^(-d.e).toNat<=a*2^(-d.e).toNat:=Nat.le_mul_of_pos_left _ (ep ha);rw[bq]at h4;unfold pP kv;rw[e0,bV,bW,bh aD,bj aD]
def acS{d:Dy}{D:Nat}(hv:d.gQ)(hD:D<=1073741824):(gK (d.m*D)).length<=256:=by
 refine BJ ?_;have:=IU d.m D;have:=hv.bits;have:gU D<=31:=kB.2 aD;omega
def ND(n k:Nat):gU (n*2^k)<=gU n+k:=by
 by_cases h:n=0
 .subst h;rw[cB,ri];omega
 .rw [qw h];omega
def acT{d:Dy}{D:Nat}(hD:D<=1073741824)(ht:(gU d.m:Int)+d.e<=32):(gK (d.m*D*2^d.e.toNat)).length<=256\/d.e<0:=by
 by_cases he:d.e<0
 .exact .inr he
 refine .inl (BJ ?_);have:=ND (d.m*D) d.e.toNat
 have:=IU d.m D;have:gU D<=31:=kB.2 aD;omega
def acQ{d:Dy}{a:Nat}(hv:d.gQ)(ha:a<=1073741824)(ht:-32<=(gU d.m:Int)+d.e):(gK (a*2^(-d.e).toNat)).length<=256:=by
 refine BJ ?_;have:=ND a (-d.e).toNat
 have:=hv.bits;have:gU a<=31:=kB.2 aD;omega
def Sy(a b:List Nat)(x:Nat):PS:=⟨67,false,[(20,.e (iP x)),(19,.e (iP a.length)),(18,.e (gO a)),(5,.own 17),(1,.e (gO b))],[(17,.row false 150 (a.length+b.length) 1 (iW (ln a b x)))]⟩
def Sz(a b:List Nat)(x:Nat)(k:Nat):PS:=⟨67,false,[(27,.e (iP k)),(26,.e (iP b.length)),(25,.e (gO b)),(8,.e (.v (.int .u64 (((mD (a.getD x 0) x b (ln a b x) k).2:Nat):Int)))),(7,.e (.v (.int .u32 (a.getD x 0:Int)))),(6,.e (iP x)),(20,.e (iP x)),(19,.e (iP a.length)),(18,.e (gO a)),(5,.own 17),(1,.e (gO b))],[(17,.row false 150 (a.length+b.length) 1 (iW ((mD (a.getD x 0) x b (ln a b x) k).1)))]⟩
def adu(a b:List Nat)(ha:iw a)(hb:iw b)(h1:a.length<=3000)(h2:b.length<=3000):gJ 273 [gO a,gO b] (gO (ln a b a.length)):=
 ak call273 func273 (aa [gW ((a.length:Int)+b.length) aD,.a (aD:0<=(((a.length:Int)+b.length):Int)/\(((a.length:Int)+b.length):Int)<=(((a.length:Int)+b.length):Int)),.a (aD:((4:Nat):Int)*((a.length:Int)+b.length)<=281474976710656/\(((a.length:Int)+b.length):Int)<=9223372036854775807),.s (Sp.iG (Sy a b) 0 a.length aD (λx hx jf=>by
    have f1:=ha.getD x;have so:=DT ha hb x aD;have g1:=so.len;have g2:=(DS f1 hb so.ok (i:=x) aD b.length aD).len;have g3:=(DS f1 hb so.ok (i:=x) aD b.length aD).lt;exact gX (aa [tT 21 ((x:Int)<a.length) aD,iX (x:Int) (a.length) aD,.s (Sp.iG (Sz a b x) 0 b.length aD (λk hk oJ=>by
    have f2:=hb.getD k;have q:=DS f1 hb so.ok (i:=x) aD k aD;have f3:=q.ok.getD (x+k);have f4:=q.lt;have f5:=q.len;have f6:=SD f1 f2;exact gX (aa [tT 28 ((k:Int)<b.length) aD,iX (k:Int) (b.length) aD,.o 33 (.int (oH _ aD):ai (.v (.int .u64 (IntKind.u64.wrap (a.getD x 0:Int)))) (.v (.int .u64 (a.getD x 0:Int)))),.o 35 (.int (oH _ aD):ai (.v (.int .u64 (IntKind.u64.wrap (b.getD k 0:Int)))) (.v (.int .u64 (b.getD k 0:Int)))),
     oF ((a.getD x 0:Int)*(b.getD k 0:Int)) aD,gW ((x:Int)+k) aD,iX ((x+k:Nat):Int) (a.length+b.length) aD,.a (aD:(x+k)<(a.length+b.length)),.o 43 (.int (oH _ aD):ai (.v (.int .u64 (IntKind.u64.wrap ((((mD (a.getD x 0) x b (ln a b x) k).1).getD (x+k) 0:Nat):Int)))) (.v (.int .u64 ((((mD (a.getD x 0) x b (ln a b x) k).1).getD (x+k) 0:Nat):Int)))),
     oF ((((a.getD x 0)*(b.getD k 0):Nat):Int)+((((mD (a.getD x 0) x b (ln a b x) k).1).getD (x+k) 0:Nat):Int)) aD,
     oF (((((a.getD x 0)*(b.getD k 0))+(((mD (a.getD x 0) x b (ln a b x) k).1).getD (x+k) 0):Nat):Int)+(((mD (a.getD x 0) x b (ln a b x) k).2:Nat):Int)) aD,
     gW ((x:Int)+k) aD,.o 52 (.int (q9 _):ai (.v (.int .u32 (IntKind.u32.wrap (((((a.getD x 0)*(b.getD k 0))+(((mD (a.getD x 0) x b (ln a b x) k).1).getD (x+k) 0))+(mD (a.getD x 0) x b (ln a b x) k).2:Nat):Int)))) (.v (.int .u32 ((((((a.getD x 0)*(b.getD k 0))+(((mD (a.getD x 0) x b (ln a b x) k).1).getD (x+k) 0))+(mD (a.getD x 0) x b (ln a b x) k).2)%4294967296:Nat):Int)))),.a (aD:0<=(32:Int)/\(32:Int)<=((64:Nat):Int)),.o 54 (.int (xJ _):ai (.v (.int .u64 ((((((a.getD x 0)*(b.getD k 0))+(((mD (a.getD x 0) x b (ln a b x) k).1).getD (x+k) 0))+(mD (a.getD x 0) x b (ln a b x) k).2:Nat):Int)/2^32))) (.v (.int .u64 ((((((a.getD x 0)*(b.getD k 0))+(((mD (a.getD x 0) x b (ln a b x) k).1).getD (x+k) 0))+(mD (a.getD x 0) x b (ln a b x) k).2)/4294967296:Nat):Int)))),
     iX ((x+k:Nat):Int) (a.length+b.length) aD,.a (aD:(x+k)<(a.length+b.length)),gW ((k:Int)+1) aD]<|.e (ae [.o 8 (.int aS:ai (.v (.int .u64 ((((((a.getD x 0)*(b.getD k 0))+(((mD (a.getD x 0) x b (ln a b x) k).1).getD (x+k) 0))+(mD (a.getD x 0) x b (ln a b x) k).2)/4294967296:Nat):Int))) (.v (.int .u64 (((mD (a.getD x 0) x b (ln a b x) (k+1)).2:Nat):Int)))),.b 17 (Mi rfl aD:Bx.le (.row false 150 (a.length+b.length) 1 (λi' j'=>if i'=(x+k)/\0<=j'/\j'<0+1 then[.v (.int .u32 ((((((a.getD x 0)*(b.getD k 0))+(((mD (a.getD x 0) x b (ln a b x) k).1).getD (x+k) 0))+(mD (a.getD x 0) x b (ln a b x) k).2)%4294967296:Nat):Int))].getD (j'-0) .any else(iW ((mD (a.getD x 0) x b (ln a b x) k).1)) i' j')) (.row false 150 (a.length+b.length) 1 (iW ((mD (a.getD x 0) x b (ln a b x) (k+1)).1))))])) aG)
  (λhk=>by
    exact gX (ae [tF 28 ((b.length:Int)<b.length) aD]) aG) aK:iF 7 f273 (Sz a b x 0) (.exit 2) ⟨67,false,[(8,.e (.v (.int .u64 (((mD (a.getD x 0) x b (ln a b x) b.length).2:Nat):Int)))),(6,.e (iP x)),(20,.e (iP x)),(19,.e (iP a.length)),(18,.e (gO a)),(5,.own 17),(1,.e (gO b))],[(17,.row false 150 (a.length+b.length) 1 (iW ((mD (a.getD x 0) x b (ln a b x) b.length).1)))]⟩) (ae [.o 8 (.int aS:ai (.v (.int .u64 0)) (.v (.int .u64 (((mD (a.getD x 0) x b (ln a b x) 0).2:Nat):Int)))),.b 17 (.iD rfl:Bx.le (.row false 150 (a.length+b.length) 1 (iW (ln a b x))) (.row false 150 (a.length+b.length) 1 (iW ((mD (a.getD x 0) x b (ln a b x) 0).1))))]),
     gW ((x:Int)+b.length) aD,.o 63 (.int (q9 _):ai (.v (.int .u32 (IntKind.u32.wrap (((mD (a.getD x 0) x b (ln a b x) b.length).2:Nat):Int)))) (.v (.int .u32 (((mD (a.getD x 0) x b (ln a b x) b.length).2%4294967296:Nat):Int)))),
     iX ((x+b.length:Nat):Int) (a.length+b.length) aD,.a (aD:(x+b.length)<(a.length+b.length)),gW ((x:Int)+1) aD]<|.e (ae [.b 17 (Mi rfl aD:Bx.le (.row false 150 (a.length+b.length) 1 (λi' j'=>if i'=(x+b.length)/\0<=j'/\j'<0+1 then[.v (.int .u32 (((mD (a.getD x 0) x b (ln a b x) b.length).2%4294967296:Nat):Int))].getD (j'-0) .any else(iW ((mD (a.getD x 0) x b (ln a b x) b.length).1)) i' j')) (.row false 150 (a.length+b.length) 1 (iW (ln a b (x+1)))))])) aG)
  (λhx=>by
    exact gX (ae [tF 21 ((a.length:Int)<a.length) aD]) aG) aK:iF 3 f273 (Sy a b 0) (.exit 0) ⟨67,false,[(5,.own 17)],[(17,.row false 150 (a.length+b.length) 1 (iW (ln a b a.length)))]⟩) (ae [.b 17 (Eo rfl (λi=>by simp[ln,bn,fM];split<;>rfl):Bx.le (.row false 150 (a.length+b.length) 1 (λ_ j_=>[.v (.int .u32 0)].getD j_ .any)) (.row false 150 (a.length+b.length) 1 (iW (ln a b 0))))])]<|rR (gO (ln a b a.length)) (xL (by rw[(DT ha hb a.length aD).len]):E.le (.sl false (a.length+b.length) 1 (iW (ln a b a.length))) (gO (ln a b a.length)))) 
def SH(L:List Nat)(h:L.length<=256):gJ 310 [gO L] (bP false):=
 aj call310 func310 (ae [tF 5 (256<(L.length:Int)) aD]) 
def SI(L:List Nat)(M:List Nat)(h1:L.length<=256)(h2:M.length<=256):gJ 271 [(.sl true 2 1 λi_ j_=>[gO L,gO M].getD (i_*1+j_) (.v (.bool false)))] (bP false):=
 aj call271 func271 (ae [.c (acR true 2 _ 310 [] (λ_=>false) (λi hi=>(match i,hi with|0,_=>SH _ h1|1,_=>SH _ h2|n+2,hi=>absurd hi aD)) aD (λ_ _=>rfl):gJ 309 [(.sl true 2 1 λi_ j_=>[gO L,gO M].getD (i_*1+j_) (.v (.bool false))),.fn 310 []] _)]) 
def SJ(L M:List Nat)(hL:iw L)(hM:iw M)(h1:L.length<=256)(h2:M.length<=256)(hf:(gK (val L*val M)).length<=256):gJ 218 [gO L,gO M] (.hH [gO (gK (val L*val M)),iP 0]):=by
 have ka:=hL.gT;have kb:=hM.gT;have ta:=n9 L;have tb:=n9 M;unfold lI at ta tb;have km:=(DT ka kb _ (bp _)).ok;have he:gT (ln (gT L) (gT M) (gT L).length)=gK (val L*val M):=by rw[qJ km,aiZ ka kb,oc,oc]
 have hd:(gT (ln (gT L) (gT M) (gT L).length)).length<=256:=by rw[he];exact hf
 exact aj call218 func218 (aa [.c (SI L M aE aE),af [gO L] (xy _ hL),af [gO M] (xy _ hM),af [gO (gT L),gO (gT M)] (adu _ _ ka kb aD aD),af [gO (ln (gT L) (gT M) (gT L).length)] (adt _ km hd)]<|rQ (.hH [gO (gT (ln (gT L) (gT M) (gT L).length)),iP 0]) (.hH [gO (gK (val L*val M)),iP 0]) (by rw[he])) 
def adv(m n:Nat)(h1:(gK m).length<=256)(h2:(gK n).length<=256)(hf:(gK (m*n)).length<=256):gJ 218 [gO (gK m),gO (gK n)] (.hH [gO (gK (m*n)),iP 0]):=by
 have:=SJ (gK m) (gK n) (kO m) (kO n) h1 h2 (by rw[jR,jR];exact hf);rwa[jR,jR]at this
def wH(m n:Nat)(h1:(gK m).length<=256)(h2:n<=65536)(h3:(gK (m*2^n)).length<=256):gJ 308 [gO (gK m),iP n] (gO (gK (m*2^n))):=
 aj call308 func308 (ae [af [gO (gK m),iP n] (adw _ _ aD aD aD)]) 
def L6(m n:Nat)(h1:(gK m).length<=256)(h2:n<=65536):gJ 320 [gO (gK m),iP n] (.hH [gO (gK (m/2^n)),bP (decide (m%2^n≠0))]):=by
 have hb:=vQ h1;have hq:(gK (m/2^n)).length<=256:=nI (by have:=sg (cz m (2^n));omega);have s9:(gK (m/2^n*2^n)).length<=256:=nI (by have:=sg (dj m (2^n));omega);have hr:(gK (m/2^gU m)).length<=256:=nI (by have:=sg (cz m (2^gU m));omega);have mV:(gK (m/2^gU m*2^gU m)).length<=256:=nI (by have:=sg (dj m (2^gU m));omega);by_cases hn:gU m<n
 .have q1:=OC (dv hn);have q2:=OC (bp (gU m));exact aj call320 func320 (aa [af [gO (gK m)] (uz _ aD),tT 11 ((gU m:Int)<n) aD,af [gO (gK m)] (uz _ aD),af [gO (gK m),iP (gU m:Int)] (SN _ _ aD aD),.c (wH (m/2^(gU m)) (gU m) aD aD aD),af [gO (gK ((m/2^(gU m))*2^(gU m))),gO (gK m)] (Lh _ _ aD aD)]<|rQ (.hH [gO (gK (m/2^(gU m))),bP ((kv ((m/2^(gU m))*2^(gU m)) m) != 0)]) (.hH [gO (gK (m/2^n)),bP (decide (m%2^n≠0))]) (by rw[R8,q1.1,q1.2,q2.1,q2.2])) 
 .exact aj call320 func320 (aa [af [gO (gK m)] (uz _ aD),tF 11 ((gU m:Int)<n) aD,af [gO (gK m),iP n] (SN _ _ aD aD),.c (wH (m/2^n) n aD aD aD),af [gO (gK ((m/2^n)*2^n)),gO (gK m)] (Lh _ _ aD aD)]<|rQ (.hH [gO (gK (m/2^n)),bP ((kv ((m/2^n)*2^n) m) != 0)]) (.hH [gO (gK (m/2^n)),bP (decide (m%2^n≠0))]) (by rw[R8])) 
abbrev MD:E:=.sl false 1 1 λi_ j_=>[.v (.int .u32 1)].getD (i_*1+j_) (.v (.bool false))
abbrev Ip(p):=gO (gK (0*2^((0-(jd 0 0 p)).toNat)))
def nD(m:Nat)(e:Int)(p:Nat):Nat:=if jd m e p<=e then m*2^(e-jd m e p).toNat else m/2^(jd m e p-e).toNat
def qT(m:Nat)(e:Int)(more:Bool)(p:Nat):Bool:=if jd m e p<=e then more else(more||decide (m%2^(jd m e p-e).toNat≠0))
def YA(m:Nat)(e:Int)(more:Bool)(p:Nat):nk m e more p false=nD m e p:=by unfold nk nD;simp
def I9{m:Nat}{e:Int}{more:Bool}{p:Nat}(hm:more=true->p<gU m):nk m e more p true=nD m e p+if qT m e more p=true then 1 else 0:=by
 unfold nk nD qT;by_cases hU:jd m e p<=e
 .have hmo:more=false:=by
   cases Kt:more with
   |false=>rfl
   |true=>have:=hm Kt;unfold jd at hU;omega
  simp[hU,hmo]
 .simp [hU]
def af8(m:Nat)(e:Int)(more up:Bool)(p:Nat)(h1:(gK m).length<=256)(h0:m≠0)(ie:8<=p)(gS:p<=512)(lh:-45000<=e)(kF:e<=45000)(hm:more=true->p<gU m):gJ 323 [.agg [gO (gK m),iP e,bP more],iP (p:Int),bP up] (.hH [gM (jK false m e more p up),iP (jD false m e more p up)]):=by
 have QZ:=Of (e:=e) true h0 hm (aD:1<=p);have ur:=Of (e:=e) false h0 hm (aD:1<=p);have hb:=vQ h1;have oo:=mZ h0;have QU:=Oe (e:=e) (more:=more) (p:=p) (up:=true) h0;have zQ:=Oe (e:=e) (more:=more) (p:=p) (up:=false) h0;rw[YA]at ur zQ;have hu1:-16384<=(jd m e p):=by unfold jd;omega
 have hu2:(jd m e p)<=60000:=by unfold jd;omega
 have hu3:(jd m e p)<=max (e+8192) (-16384):=by unfold jd;omega
 have fa:(gK (nD m e p)).length<=256:=nI aD;have fb:(gK (nk m e more p true)).length<=256:=nI aD;have f1:(gK 1).length<=256:=nI aF;cases up with
 |true=>
  exact aj call323 func323 (aa [af [gO (gK m)] (uz _ aD),gW (e+(gU m:Int)) aD,gW ((e+(gU m:Int))-(p:Int)) aD,.o 21 (an (if(-16384)>((e+(gU m:Int))-(p:Int))then(-16384)else((e+(gU m:Int))-(p:Int))) (jd m e p) (by unfold jd;split<;>omega)),.j 58 ⟨84,true,[(9,.e (gO (gK (nD m e p)))),(10,.e (bP (qT m e more p))),(8,.e (iP (jd m e p))),(6,.box 6 0),(1,.e (iP p)),(2,.e (bP true))],[(6,.cells 39 aq)]⟩
   (.w ((jd m e p)<=e)
    (λm1=>by
     have fx:(gK (m*2^(e-(jd m e p)).toNat)).length<=256:=by have:=fa;rwa[show nD m e p=_ from bj m1]at this
     exact aa [.v 29 (.bool (bk m1)),gW (e-(jd m e p)) aD,.o 35 (an (e-(jd m e p)) ((e-(jd m e p)).toNat:Int) aD),.c (wH m ((e-(jd m e p)).toNat:Nat) aD aD aD)]<|.e (ae [.o 9 (.e (.iD (by rw[show nD m e p=_ from bj m1])):ai (gO (gK (m*2^((e-(jd m e p)).toNat)))) (gO (gK (nD m e p)))),tB 10 (by simp[qT,m1]:more=(qT m e more p))]))
    (λm1=>aa [.v 29 (.bool (bl m1)),gW ((jd m e p)-e) aD,.o 43 (an ((jd m e p)-e) (((jd m e p)-e).toNat:Int) aD),.c (L6 m (((jd m e p)-e).toNat:Nat) aD aD)]<|.w (more=true)
     (λm2=>aa [tB 48 m2]<|.e (ae [.o 9 (.e (.iD (by rw[show nD m e p=_ from bh m1])):ai (gO (gK (m/2^(((jd m e p)-e).toNat)))) (gO (gK (nD m e p)))),tB 10 (by simp[qT,m1,m2]:true=(qT m e more p))]))
     (λm2=>aa [tB 48 (bc m2)]<|.e (ae [.o 9 (.e (.iD (by rw[show nD m e p=_ from bh m1])):ai (gO (gK (m/2^(((jd m e p)-e).toNat)))) (gO (gK (nD m e p)))),tB 10 (by simp[qT,m1,m2]:(decide (m%2^(((jd m e p)-e).toNat)≠0))=(qT m e more p))])))),.j 110 ⟨84,true,[(9,.e (gO (gK (nk m e more p true)))),(8,.e (iP (jd m e p))),(6,.box 6 0),(1,.e (iP p)),(2,.e (bP true))],[(6,.cells 39 aq)]⟩
   (.w (qT m e more p=true)
    (λm1=>by
     have fx:(gK (nD m e p+1)).length<=256:=by have:=fb;rwa[I9 hm,bj m1]at this
     exact aa [.v 55 (.bool m1),.o 58 (.e uC:ai MD (gO (gK 1))),af [gO (gK (nD m e p)),gO (gK 1)] (Lg _ _ aD aD aD)]<|.e (ae [.o 9 (.e (.iD (by rw[I9 hm,bj m1])):ai (gO (gK ((nD m e p)+1))) (gO (gK (nk m e more p true))))]))
    (λm1=>aa [.v 55 (.bool (bc m1))]<|.e (ae [.o 9 (.e (.iD (by rw[I9 hm,bh m1,bK])):ai (gO (gK (nD m e p))) (gO (gK (nk m e more p true))))]))),af [gO (gK (nk m e more p true))] (uz _ aD),gW ((gU (nk m e more p true):Int)+(jd m e p)) aD]<|.w (16384<((gU (nk m e more p true):Int)+(jd m e p)))
   (λk1=>by
    have w1:=(QZ.resolve_left (λh=>absurd k1 aD)).2.resolve_right (λh=>absurd h.1 aF);exact aa [tB 66 (bk k1),.o 68 (.e qM:ai (.agg aq) (gM ix))]<|rQ (.hH [gM ix,iP 9]) (.hH [gM (jK false m e more p true),iP (jD false m e more p true)]) (by rw[w1.2.1,w1.2.2]))
   (λk1=>by
    have w1:=QZ.resolve_right (λh=>k1 h.1);have hd:pe (canon false (nk m e more p true) (jd m e p)):=by rw[<-w1.2.1];exact(lY false m e more p true aD aD).range
    exact aa [tB 66 (bl k1),af [bP false,gO (gK (nk m e more p true)),iP (jd m e p)] (CO _ _ _ aD aD aD aE)]<|rQ (.hH [gM (canon false (nk m e more p true) (jd m e p)),iP 0]) (.hH [gM (jK false m e more p true),iP (jD false m e more p true)]) (by rw[w1.2.1,w1.2.2]))) 
 |false=>
  exact aj call323 func323 (aa [af [gO (gK m)] (uz _ aD),gW (e+(gU m:Int)) aD,gW ((e+(gU m:Int))-(p:Int)) aD,.o 21 (an (if(-16384)>((e+(gU m:Int))-(p:Int))then(-16384)else((e+(gU m:Int))-(p:Int))) (jd m e p) (by unfold jd;split<;>omega)),.j 58 ⟨84,true,[(9,.e (gO (gK (nD m e p)))),(10,.e (bP (qT m e more p))),(8,.e (iP (jd m e p))),(6,.box 6 0),(1,.e (iP p)),(2,.e (bP false))],[(6,.cells 39 aq)]⟩
   (.w ((jd m e p)<=e)
    (λm1=>by
     have fx:(gK (m*2^(e-(jd m e p)).toNat)).length<=256:=by have:=fa;rwa[show nD m e p=_ from bj m1]at this
     exact aa [.v 29 (.bool (bk m1)),gW (e-(jd m e p)) aD,.o 35 (an (e-(jd m e p)) ((e-(jd m e p)).toNat:Int) aD),.c (wH m ((e-(jd m e p)).toNat:Nat) aD aD aD)]<|.e (ae [.o 9 (.e (.iD (by rw[show nD m e p=_ from bj m1])):ai (gO (gK (m*2^((e-(jd m e p)).toNat)))) (gO (gK (nD m e p)))),tB 10 (by simp[qT,m1]:more=(qT m e more p))]))
    (λm1=>aa [.v 29 (.bool (bl m1)),gW ((jd m e p)-e) aD,.o 43 (an ((jd m e p)-e) (((jd m e p)-e).toNat:Int) aD),.c (L6 m (((jd m e p)-e).toNat:Nat) aD aD)]<|.w (more=true)
     (λm2=>aa [tB 48 m2]<|.e (ae [.o 9 (.e (.iD (by rw[show nD m e p=_ from bh m1])):ai (gO (gK (m/2^(((jd m e p)-e).toNat)))) (gO (gK (nD m e p)))),tB 10 (by simp[qT,m1,m2]:true=(qT m e more p))]))
     (λm2=>aa [tB 48 (bc m2)]<|.e (ae [.o 9 (.e (.iD (by rw[show nD m e p=_ from bh m1])):ai (gO (gK (m/2^(((jd m e p)-e).toNat)))) (gO (gK (nD m e p)))),tB 10 (by simp[qT,m1,m2]:(decide (m%2^(((jd m e p)-e).toNat)≠0))=(qT m e more p))])))),af [gO (gK (nD m e p))] (uz _ aD),gW ((gU (nD m e p):Int)+(jd m e p)) aD]<|.w (16384<((gU (nD m e p):Int)+(jd m e p)))
   (λk1=>by
    have w1:=(ur.resolve_left (λh=>absurd k1 aD)).2.resolve_left (λh=>absurd h.1 aF);have hd:pe (canon false ((1*2^p)-1) (16384-(p:Int))):=by rw[bX,<-w1.2.1];exact(lY false m e more p false aD aD).range
    have g0:gU (1*2^p)=p+1:=by rw[bX];exact tR (bp _) (eH aF aD)
    have g1:(gK 1).length<=256:=nI aF;have g2:(gK (1*2^p)).length<=256:=nI aD;have g4:1<=1*2^p:=by rw[bX];exact bu aF 
    have g3:(gK ((1*2^p)-1)).length<=256:=nI (by have:=sg (dP (1*2^p) 1);omega);exact aa [tB 66 (bk k1),.o 70 (.e uC:ai MD (gO (gK 1))),.c (wH 1 p aD aD aD),.o 73 (.e uC:ai MD (gO (gK 1))),af [gO (gK (1*2^p)),gO (gK 1)] (Lj _ _ aD aD aD),gW (16384-(p:Int)) aD,af [bP false,gO (gK ((1*2^p)-1)),iP (16384-(p:Int))] (CO _ _ _ aD aD aD aE)]<|rQ (.hH [gM (canon false ((1*2^p)-1) (16384-(p:Int))),iP 0]) (.hH [gM (jK false m e more p false),iP (jD false m e more p false)]) (by rw[w1.2.1,w1.2.2,bX]))
   (λk1=>by
    have w1:=ur.resolve_right (λh=>k1 h.1);have hd:pe (canon false (nD m e p) (jd m e p)):=by rw[<-w1.2.1];exact(lY false m e more p false aD aD).range
    exact aa [tB 66 (bl k1),af [bP false,gO (gK (nD m e p)),iP (jd m e p)] (CO _ _ _ aD aD aD aE)]<|rQ (.hH [gM (canon false (nD m e p) (jd m e p)),iP 0]) (.hH [gM (jK false m e more p false),iP (jD false m e more p false)]) (by rw[w1.2.1,w1.2.2]))) 
def af9(up:Bool)(p:Nat)(ie:8<=p)(gS:p<=512):gJ 323 [.agg [gO (gK 0),iP 0,bP false],iP (p:Int),bP up] (.hH [gM (jK false 0 0 false p up),iP (jD false 0 0 false p up)]):=by
 have hU:jd 0 0 p = -(p:Int):=by unfold jd;rw[ri];omega
 have hK:iO 0 0 p=0:=by unfold iO;rw[ri];omega
 have hQ:ks 0 0 false p up=0:=by unfold ks;rw[hK];simp
 have hO:lr 0 0 false p up=false:=by unfold lr;rw[hQ];simp
 have qg:(false != up)=up:=by cases up<;>rfl
 have k2:jK false 0 0 false p up=ix:=by unfold jK;rw[qg,hO,bh aF,hQ];rfl
 have k3:jD false 0 0 false p up=0:=by unfold jD;rw[qg,hO];rfl
 have lz:gU 0=0:=rfl;have l0:(gK 0).length<=256:=by rw[nt];decide
 have l1:(gK (0*2^(0-jd 0 0 p).toNat)).length<=256:=by rw[cB];exact l0
 have lb:gU (0*2^(0-jd 0 0 p).toNat)=0:=by rw[cB];rfl
 have hd:pe (canon false (0*2^(0-jd 0 0 p).toNat) (jd 0 0 p)):=by rw[cB];exact .inl rfl
 by_cases zU:up=true
 .exact aj call323 func323 (aa [af [gO (gK 0)] (uz _ aD),gW (0+(gU 0:Int)) aD,gW ((0+(gU 0:Int))-(p:Int)) aD,.o 21 (an (if(-16384)>((0+(gU 0:Int))-(p:Int))then(-16384)else((0+(gU 0:Int))-(p:Int))) (jd 0 0 p) (by unfold jd;rw[ri];split<;>omega)),tT 29 ((jd 0 0 p)<=0) aD,gW (0-(jd 0 0 p)) aD,.o 35 (an (0-(jd 0 0 p)) ((0-(jd 0 0 p)).toNat:Int) aD),.c (wH 0 ((0-(jd 0 0 p)).toNat:Nat) aD aD aD),ag 52 up zU,af [Ip p] (uz _ aD),
   gW ((gU (0*2^((0-(jd 0 0 p)).toNat)):Int)+(jd 0 0 p)) aD,tF 66 (16384<((gU (0*2^((0-(jd 0 0 p)).toNat)):Int)+(jd 0 0 p))) aD,af [bP false,Ip p,iP (jd 0 0 p)] (CO _ _ _ aD aD aD aE)]<|rQ (.hH [gM (canon false (0*2^((0-(jd 0 0 p)).toNat)) (jd 0 0 p)),iP 0]) (.hH [gM (jK false 0 0 false p up),iP (jD false 0 0 false p up)]) (by rw[k2,k3,cB];rfl)) 
 .exact aj call323 func323 (aa [af [gO (gK 0)] (uz _ aD),gW (0+(gU 0:Int)) aD,gW ((0+(gU 0:Int))-(p:Int)) aD,.o 21 (an (if(-16384)>((0+(gU 0:Int))-(p:Int))then(-16384)else((0+(gU 0:Int))-(p:Int))) (jd 0 0 p) (by unfold jd;rw[ri];split<;>omega)),tT 29 ((jd 0 0 p)<=0) aD,gW (0-(jd 0 0 p)) aD,.o 35 (an (0-(jd 0 0 p)) ((0-(jd 0 0 p)).toNat:Int) aD),.c (wH 0 ((0-(jd 0 0 p)).toNat:Nat) aD aD aD),ah 52 up (by simpa using zU),af [Ip p] (uz _ aD),
   gW ((gU (0*2^((0-(jd 0 0 p)).toNat)):Int)+(jd 0 0 p)) aD,tF 66 (16384<((gU (0*2^((0-(jd 0 0 p)).toNat)):Int)+(jd 0 0 p))) aD,af [bP false,Ip p,iP (jd 0 0 p)] (CO _ _ _ aD aD aD aE)]<|rQ (.hH [gM (canon false (0*2^((0-(jd 0 0 p)).toNat)) (jd 0 0 p)),iP 0]) (.hH [gM (jK false 0 0 false p up),iP (jD false 0 0 false p up)]) (by rw[k2,k3,cB];rfl)) 
def Hc(m:Nat)(e:Int)(more up:Bool)(p:Nat)(h1:(gK m).length<=256)(h0:m≠0\/m=0/\e=0/\more=false)(ie:8<=p)(gS:p<=512)(lh:-45000<=e)(kF:e<=45000)(hm:more=true->p<gU m):gJ 323 [.agg [gO (gK m),iP e,bP more],iP (p:Int),bP up] (.hH [gM (jK false m e more p up),iP (jD false m e more p up)]):=by
 rcases h0 with h0|⟨rfl,rfl,rfl⟩
 .exact af8 m e more up p h1 h0 ie gS lh kF hm
 .exact af9 up p ie gS
end Go.Proofs.YtkjkcjhacddojaaGreatDoor
