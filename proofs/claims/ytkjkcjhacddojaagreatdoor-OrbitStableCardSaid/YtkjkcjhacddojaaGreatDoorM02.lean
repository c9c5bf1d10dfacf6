/- Lemmas that the last file uses. -/
import Derived.Test.YtkjkcjhacddojaaGreatDoorM01
import Derived.Deep.DeepCutAuto
import Derived.Deep.Slices
import Derived.Carry
import Derived.Scope
set_option linter.unusedSimpArgs false
set_option linter.unusedVariables false
set_option linter.defProp false
set_option maxHeartbeats 4000000
open Go.Proofs.Tryz
namespace Go.Proofs.YtkjkcjhacddojaaGreatDoor
open Go.RowKit Fp
def Oe(n c:Nat)(hc:n<=c)(hn:c<=10000000000)(w:World):
 (Instr.makeSlice 37 (.int .i64 (n:Int)) (.int .i64 (c:Int))).run prog w = .ok (.slice (some ⟨w.heap.size,0,none⟩) n c) (w.alloc (.cells (oO (List.replicate c 0)).toArray 150)):=by
 obtain⟨i,hi,hz,h1,h2⟩:=info_parts NI;have hr:=run_make (P:=prog) w 37 150 i _ underlying37 hi hz .i64 .i64 n c aE aE (by rw[h2];omega) aE;rw[hr,gl,gl,h1,cz];refine congrArg (λcs=>Result.ok (Value.slice (some ⟨w.heap.size,0,none⟩) n c) (w.alloc (.cells cs 150))) ?_;apply Array.ext
 .simp [madeCells,oO]
 .intro i h1 h2;simp[madeCells,oO,Value.cells,dj]
def Ow.yD(w:World)(base n c:Nat)(hb:base<=w.heap.size)(hc:n<=c)(hn:c<=10000000000):
 Ow (w.alloc (.cells (oO (List.replicate c 0)).toArray 150)) base (.slice (some ⟨w.heap.size,0,none⟩) n c) (List.replicate n 0):=
 ⟨⟨by simp[oO],.inr ⟨w.heap.size,c,_,aK,hb,heap_alloc_new w _,by simpa using hc,by simp only[maxLen];omega,by simp[oO],by
  simp[oO,List.take_replicate,dB hc]⟩⟩,iK.CT n⟩
def iJ.own{w w1 w2:World}(h:iJ w w1)(v:Value)(L:List Nat)(ho:Ow w1 w.heap.size v L)(hg:w1.grownBy w2 v.ownBlock):iJ w w2:=
 h.grown hg h.size (λk hk=>(ho.row.lt k hk).1)
def PO(x q s:Nat)(hx:x<4294967296)(hs:s<32)(hq:q<2^s):
 bits BinOp.or IntKind.u64 (IntKind.u64.wrap ((x:Int)*2^s)) (q:Int)=((x*2^s+q:Nat):Int)/\x*2^s+q<18446744073709551616/\(x*2^s+q)/4294967296<2^s:=by
 have hp:2^s<=2^31:=bN aG aE;have e31:(2:Nat)^31=2147483648:= aG ;have h1:(x+1)*2^s<=4294967296*2^s:=bX _ hx;rw[ct,ck]at h1;have h2:x*2^s<4294967296*2^s:=c9 hx (bF aG);refine⟨?_,aE,aE⟩;have e:((x:Int)*2^s)=((x*2^s:Nat):Int):= aK ;rw[e,IntKind.wrap_u64,show((x*2^s:Nat):Int)%18446744073709551616=((x*2^s:Nat):Int)by omega,KQ _ _ aE aE,gy,Br q x s hq,eN]
def Ws(A:Option Addr)(c:Nat)(L:List Nat)(n:Nat)(w:World)(hs:Sl w A c L)(hlen:L.length<=100000000)(hn:n<=65536):
 Calls prog 275 #[.slice A L.length c,.int .i64 n] w (λe w'=>∃ T,val T=val L*2^n/\iK T/\T.length=n/32+(ix L).length+1/\tN w T e w'):=by
 have hT:=aqG (uZ A c L w hs);have kV:=hs.ur;have nR:=pq L;have hC:=kV.cap;have hL:=hs.qx;unfold mC at nR;have hv:=aqG (oZ L);generalize ix L=M at *
 obtain⟨m,hm⟩:∃ m,m=M.length:=⟨_,rfl⟩
 rw[<-hm]at hT nR hC;have HM:=aqG hm;clear hm;have pH:=Oe (n/32) (n/32+m+1) aE aE;rw[show((n/32:Nat):Int)=n/32 by omega,show((n/32+m+1:Nat):Int)=n/32+m+1 by omega]at pH;have FF:=aqG (Ow.yD w w.heap.size (n/32) (n/32+m+1) (bC _) aE aE);go_enter func275,ntmps275;go_wp2_with fail;refine hT.out.mono ?_;rintro e w' ⟨rfl,rfl⟩;go_wp2;go_loopw [5,6,23] (λv cy i wr=>∃ (k q:Nat) (O:List Nat),k<=m/\i = .int .i64 k/\cy = .int .u64 q/\q<2^(n%32)/\O.length=n/32+k/\val O+4294967296^(n/32+k)*q=val (M.take k)*2^(n%32)*4294967296^(n/32)/\Ow wr w.heap.size v O/\iJ w wr) (λ_ _ i _=>m-(intOf i).toNat)
 case atStart=>
  exact⟨0,0,List.replicate (n/32) 0,cj _,rfl,rfl,bF aG,aK,by simp[AB],FF.out,iJ.alloc _ _⟩
 case round=>
  obtain⟨k,q,O,hk,rfl,rfl,hq,hO,lP,lM,hb⟩:=hrel;have HV:=aqG lP;have HO:=aqG hO;have FE:O.length<=200000000:= aE ;have uQ:=aqG hq;clear lP hO hq;obtain⟨OA,Oc,rfl,zO⟩:=lM.sl;by_cases iL:k<m
  .have pG:k<M.length:=by have:=HM.out;omega
   obtain⟨ab,ao,rfl,_,c1⟩:=(kV.below hb).lR pG;have nd:M[k]<4294967296:=kV.ok.get pG;have HX:=aqG (PN (c:=q) (s:=n%32) (n0:=n/32) pG HO.out HV.out);generalize M[k]=x at *
   obtain⟨hw,zU,ug⟩:=PO x q (n%32) nd (bM _ aG) uQ.out;generalize x*2^(n%32)+q=z at *
   have F3:=aqG ug;clear ug;have lW:O.length+[z%4294967296].length<=10000000000:= aS ;go_wp2_with (at_builtin;go_must (refine rp aJ _ _ aJ w.heap.size _ O aJ (lM.alloc _) _ _ _ [z%4294967296] aJ aJ (Sl.tG _ _ (z%4294967296) aE aE) lW (qw hb.size _) ?_);intro v' w1 o9 hg pD)
   go_roundw
   case rel=>
    exact⟨k+1,z/4294967296,O++[z%4294967296],aE,by go_num,by go_num,F3.out,by rw[cE,HO.out];rfl,HX.out,o9,(hb.trans (iJ.alloc _ _)).own _ _ (lM.alloc _) hg⟩
   case measure=>simp[intOf];omega
  .obtain rfl:k=m:= aE ;have lW:O.length+[q].length<=10000000000:= aS ;have Jp:q<4294967296:=by
    have:=uQ.out;have hp:2^(n%32)<=2^31:=bN aG aE;have e31:(2:Nat)^31=2147483648:= aG ;omega
   have UF:(q:Int)%4294967296=q:= aE ;go_wp2_with (at_builtin;go_must (refine rp aJ _ _ aJ w.heap.size _ O aJ (lM.alloc _) _ _ _ [q] aJ aJ (Sl.tG _ _ q aE aE) lW (qw hb.size _) ?_);intro v' w1 o9 hg pD)
   obtain⟨A',c',rfl,oi⟩:=o9.sl;go_ret;refine⟨O++[q],?_,oi.ok,by rw[cE,HO.out,<-HM.out];rfl,A',c',rfl,oi,(hb.trans (iJ.alloc _ _)).own _ _ (lM.alloc _) hg⟩;have h:=HV.out;rw[cT (by rw[HM.out];exact bC _)]at h;rw[vk,HO.out,qO,Az,cU,bT,h,<-hv.out,oE,bL,<-bE];congr 2;omega
def Wk(A:Option Addr)(c:Nat)(L:List Nat)(n:Nat)(w:World)(hs:Sl w A c L)(hlen:L.length<=256)(hn:n<=65536)(oQ:(ia (val L*2^n)).length<=256):
 Calls prog 219 #[.slice A L.length c,.int .i64 n] w (Dd w (ia (val L*2^n)) 0):=by
 have H1:=aqG (λw (h:Sl w A c L)=>Ws A c L n w h aE hn);obtain⟨R,hR⟩:∃ R,R=ia (val L*2^n):=⟨_,rfl⟩
 rw[<-hR]at oQ ⊢;have HR:=aqG hR;clear hR;go_enter func219,ntmps219;go_wp2_with fail;refine(Oa _ A _ c _ false (Qr _ _ _ _) aS).mono ?_;rintro e w' ⟨rfl,rfl⟩;go_wp2_with fail;refine(H1.out _ (hs.alloc _)).mono ?_;rintro e w' ⟨T,hT,FG,-,A',c',rfl,oi,hb⟩;have h3:=aqG (show ix T=R by rw[qN FG,hT,HR.out]);clear hT FG;go_wp2_with fail;refine(Gs A' c' T _ oi (by rw[h3.out];exact oQ)).mono ?_;rintro e w'' ⟨A'',c'',rfl,qT,nu⟩;go_wp2;go_ret2;rw[<-h3.out];exact⟨A'',c'',rfl,qT,(iJ.alloc _ _).trans (hb.trans nu)⟩
def amz(A:Option Addr)(c:Nat)(L:List Nat)(n:Nat)(w:World)(hs:Sl w A c L)(hlen:L.length<=256)(hn:n<=65536)(oQ:(ia (val L*2^n)).length<=256):
 Calls prog 266 #[.slice A L.length c,.int .i64 n] w (tN w (ia (val L*2^n))):=by
 have H1:=aqG (Wk A c L n w hs hlen hn oQ);generalize ia (val L*2^n)=R at *
 go_enter func266,ntmps266;go_wp2_with fail;refine H1.out.mono ?_;rintro e w'' ⟨A'',c'',rfl,qT,nu⟩;go_wp2;go_ret;exact⟨A'',c'',rfl,qT,nu⟩
def P8(a b:Nat)(ha:a<18446744073709551616)(hb:b<18446744073709551616):bits .and .u64 (a:Int) (b:Int)=((a &&& b:Nat):Int):=by
 have hx:a &&& b<2^64:=fP _ aE;have h1:(BitVec.ofInt 64 (a:Int)).toNat=a:=by
  rw[gU,gV];exact bU aE 
 have h2:(BitVec.ofInt 64 (b:Int)).toNat=b:=by
  rw[gU,gV];exact bU aE 
 show IntKind.u64.wrap ((BitVec.ofInt 64 (a:Int) &&& BitVec.ofInt 64 (b:Int)).toNat:Int)=_;rw[BitVec.toNat_and,h1,h2,IntKind.wrap_u64];omega
def wQ(z:Nat)(hz:z<18446744073709551616):bits BinOp.and IntKind.u64 (z:Int) 4294967295=(z:Int)%4294967296:=by
 have e:(4294967295:Int)=((4294967295:Nat):Int):=rfl;rw[e,P8 z _ hz aE,show(4294967295:Nat)=2^32-1 by decide,ap9];simp
def ald(A:Option Addr)(c:Nat)(M:List Nat)(n:Nat)(w:World)(kV:Sl w A c M)(hlen:M.length<=1000)(hn:n<=65536):
 Calls prog 246 #[.slice A M.length c,.int .i64 n] w (tN w (ia (val M*2^n))):=by
 have hC:=kV.cap;have hL:=kV.qx;obtain⟨m,hm⟩:∃ m,m=M.length:=⟨_,rfl⟩
 rw[<-hm]at hlen hC ⊢;have HM:=aqG hm;clear hm;have pH:=Oe (n/32) (n/32) aE aE;rw[show((n/32:Nat):Int)=n/32 by omega]at pH;have FF:=aqG (Ow.yD w w.heap.size (n/32) (n/32) (bC _) aE aE);go_enter func246,ntmps246;go_wp2;go_loopw [5,6,7] (λv cy i wr=>∃ (k q:Nat) (O:List Nat),k<=m/\i = .int .i64 k/\cy = .int .u64 q/\q<2^(n%32)/\O.length=n/32+k/\val O+4294967296^(n/32+k)*q=val (M.take k)*2^(n%32)*4294967296^(n/32)/\Ow wr w.heap.size v O/\iJ w wr) (λ_ _ i _=>m-(intOf i).toNat)
 case atStart=>
  exact⟨0,0,List.replicate (n/32) 0,cj _,rfl,rfl,bF aG,aK,by simp[AB],FF.out,iJ.alloc _ _⟩
 case round=>
  obtain⟨k,q,O,hk,rfl,rfl,hq,hO,lP,lM,hb⟩:=hrel;have HV:=aqG lP;have HO:=aqG hO;have FE:O.length<=3100:= aE ;have uQ:=aqG hq;clear lP hO hq;obtain⟨OA,Oc,rfl,zO⟩:=lM.sl;by_cases iL:k<m
  .have pG:k<M.length:=by have:=HM.out;omega
   obtain⟨ab,ao,rfl,_,c1⟩:=(kV.below hb).lR pG;have nd:M[k]<4294967296:=kV.ok.get pG;have HX:=aqG (PN (c:=q) (s:=n%32) (n0:=n/32) pG HO.out HV.out);generalize M[k]=x at *
   obtain⟨hw,zU,ug⟩:=PO x q (n%32) nd (bM _ aG) uQ.out;generalize x*2^(n%32)+q=z at *
   have F3:=aqG ug;clear ug;have lW:O.length+[z%4294967296].length<=10000000000:= aS ;have uO:=wQ z zU;go_wp2_with (at_builtin;go_must (refine rp aJ _ _ aJ w.heap.size _ O aJ (lM.alloc _) _ _ _ [z%4294967296] aJ aJ (Sl.tG _ _ (z%4294967296) aE aE) lW (qw hb.size _) ?_);intro v' w1 o9 hg pD)
   go_roundw
   case rel=>
    exact⟨k+1,z/4294967296,O++[z%4294967296],aE,by go_num,by go_num,F3.out,by rw[cE,HO.out];rfl,HX.out,o9,(hb.trans (iJ.alloc _ _)).own _ _ (lM.alloc _) hg⟩
   case measure=>simp[intOf];omega
  .obtain rfl:k=m:= aE ;have lW:O.length+[q].length<=10000000000:= aS ;have Jp:q<4294967296:=by
    have:=uQ.out;have hp:2^(n%32)<=2^31:=bN aG aE;have e31:(2:Nat)^31=2147483648:= aG ;omega
   have UF:(q:Int)%4294967296=q:= aE ;have xf:Hid (ix (O++[q])=ia (val M*2^n)):=by
    show ix (O++[q])=ia (val M*2^n);rw[qN (lM.ok.append (iK.cons Jp iK.nil))];have h:=HV.out;rw[cT (by rw[HM.out];exact bC _)]at h;rw[vk,HO.out,qO,Az,cU,bT,h,oE,bL,<-bE];congr 3;omega
   go_wp2_with (at_builtin;go_must (refine rp aJ _ _ aJ w.heap.size _ O aJ (lM.alloc _) _ _ _ [q] aJ aJ (Sl.tG _ _ q aE aE) lW (qw hb.size _) ?_);intro v' w1 o9 hg pD;obtain⟨P,hP⟩:∃ P,P=O++[q]:=⟨_,rfl⟩;rw[<-hP]at o9 xf;have I3:P.length<=3101:=(by rw[hP];simp;omega);clear hP;obtain⟨A',c',rfl,oi⟩:=o9.sl)
   refine(CS A' c' P _ oi aE).mono ?_;rintro e w' ⟨A'',c'',rfl,qT,nu⟩;go_wp2;go_ret;rw[<-xf.out];exact⟨A'',c'',rfl,qT,((hb.trans (iJ.alloc _ _)).own _ _ (lM.alloc _) hg).trans nu⟩
def amJ(x y s:Nat)(hx:x<4294967296)(hy:y<4294967296):
 bits BinOp.and IntKind.u64 (bits BinOp.or IntKind.u64 (x:Int) ((y:Int)*4294967296)/2^s) 4294967295=(((x+4294967296*y)/2^s%4294967296:Nat):Int):=by
 have e:((y:Int)*4294967296)=((y*2^32:Nat):Int):= aK ;rw[e,KQ x (y*2^32) aE aE,Br x y 32 aE];have h:(x+y*2^32)/2^s<18446744073709551616:=cB (bV _ _) aE;have h2:=wQ _ h;rw[show(((x+y*2^32:Nat):Int)/2^s)=(((x+y*2^32)/2^s:Nat):Int)by simp,h2];simp[bK]
def amI(x s:Nat)(hx:x<4294967296):bits BinOp.and IntKind.u64 ((x:Int)/2^s) 4294967295=(((x+4294967296*0)/2^s%4294967296:Nat):Int):=by
 have h:x/2^s<18446744073709551616:=cB (bV _ _) aE;rw[show((x:Int)/2^s)=((x/2^s:Nat):Int)by simp,wQ _ h];simp
def alk(A:Option Addr)(c:Nat)(M:List Nat)(n:Nat)(w:World)(kV:Sl w A c M)(hlen:M.length<=3000)(hn:n<=100000):
 Calls prog 263 #[.slice A M.length c,.int .i64 n] w (tN w (ia (val M/2^n))):=by
 have hC:=kV.cap;have hL:=kV.qx;have xf:Hid (ix (qM (n%32) (M.drop (n/32)))=ia (val M/2^n)):=by
  show _=_;rw[qN (Bp _ _),KZ kV.ok]
 obtain⟨R,hR⟩:∃ R,R=ia (val M/2^n):=⟨_,rfl⟩
 rw[<-hR]at xf ⊢;clear hR;obtain⟨m,hm⟩:∃ m,m=M.length:=⟨_,rfl⟩
 rw[<-hm]at hlen hC ⊢;have HM:=aqG hm;clear hm;by_cases h0:m<=n/32
 .go_enter func263,ntmps263;go_wp2;go_ret;have:M.drop (n/32)=[]:=eI (by rw[<-HM.out];exact h0);have h:=xf.out;rw[this]at h;rw[<-h];exact⟨none,0,rfl,Sl.nil _,iJ.refl _⟩
 .obtain ⟨ab,ao,rfl,_,_⟩:=kV.lR (i:=0) (by have:=HM.out;omega);have hK:=kV.drop (n/32);have uJ:=aqG (show m-n/32=(M.drop (n/32)).length by rw[fe,HM.out]);have sr:n/32<c:= aE ;have mS:0<m-n/32:= aE ;have tX:m-n/32<=3000:= aE ;generalize M.drop (n/32)=K at *
  simp only[dm,BP]at hK;have wY:=aqG (KA (n%32) K);have MO:=aqG (YP (n%32) K);have FG:=aqG (Bp (n%32) K);generalize qM (n%32) K=T at *
  go_enter func263,ntmps263;go_wp2;go_loopw [5,6] (λv i wr=>∃ (k:Nat) (O:List Nat),k<=m-n/32/\i = .int .i64 k/\O=T.take k/\Ow wr w.heap.size v O/\iJ w wr) (λ_ i _=>m-n/32-(intOf i).toNat)
  case atStart=>
   exact⟨0,[],cj _,rfl,aK,Ow.nil _ _,iJ.refl _⟩
  case round=>
   obtain⟨k,O,hk,rfl,hO,lM,hb⟩:=hrel;have FE:O.length<=3000:=by rw[hO,cJ];omega
   have HO:=aqG hO;clear hO;obtain⟨OA,Oc,rfl,zO⟩:=lM.sl;by_cases iL:k<m-n/32
   .have uM:k<K.length:=by have:=uJ.out;omega
    obtain⟨ab',ao',e',_,c1⟩:=(hK.below hb).lR uM;cases e';have hg:=MO.out k uM;have nd:K[k]<4294967296:=hK.ok.get uM;have HK:=aqG (bI uM);by_cases FM:k+1<m-n/32
    .have zG:k+1<K.length:=by have:=uJ.out;omega
     obtain⟨ab',ao',e',_,c2⟩:=(hK.below hb).lR zG;cases e';have hy:K.getD (k+1) 0=K[k+1]:=by rw[bD,bI zG];rfl
     rw[hy]at hg;have pY:K[k+1]<4294967296:=hK.ok.get zG;have HG:=aqG hg;clear hg hy;generalize K[k]=x at *
     generalize K[k+1]=y at *
     clear uM zG;have hw:=amJ x y (n%32) nd pY;have hz:(x+4294967296*y)/2^(n%32)%4294967296<4294967296:=bM _ aG;generalize (x+4294967296*y)/2^(n%32)%4294967296=z at *
     have lW:O.length+[z].length<=10000000000:= aS ;go_wp2_with (at_builtin;go_must (refine rp aJ _ _ aJ w.heap.size _ O aJ (lM.alloc _) _ _ _ [z] aJ aJ (Sl.tG _ _ z aE aE) lW (qw hb.size _) ?_);intro v' w1 o9 hg pD)
     go_roundw
     case rel=>
      exact⟨k+1,O++[z],aE,by go_num,by rw[HO.out,aqa,HG.out];rfl,o9,(hb.trans (iJ.alloc _ _)).own _ _ (lM.alloc _) hg⟩
     case measure=>simp[intOf];omega
    .have hy:K.getD (k+1) 0=0:=by rw[bD,cC (by have:=uJ.out;omega)];rfl
     rw[hy]at hg;have HG:=aqG hg;clear hg hy;generalize K[k]=x at *
     clear uM;have hw:=amI x (n%32) nd;have hz:(x+4294967296*0)/2^(n%32)%4294967296<4294967296:=bM _ aG;generalize (x+4294967296*0)/2^(n%32)%4294967296=z at *
     have lW:O.length+[z].length<=10000000000:= aS ;go_wp2_with (at_builtin;go_must (refine rp aJ _ _ aJ w.heap.size _ O aJ (lM.alloc _) _ _ _ [z] aJ aJ (Sl.tG _ _ z aE aE) lW (qw hb.size _) ?_);intro v' w1 o9 hg pD)
     go_roundw
     case rel=>
      exact⟨k+1,O++[z],aE,by go_num,by rw[HO.out,aqa,HG.out];rfl,o9,(hb.trans (iJ.alloc _ _)).own _ _ (lM.alloc _) hg⟩
     case measure=>simp[intOf];omega
   .have hOT:Hid (ix O=R):=by
     show ix O=R;rw[HO.out,cT (by rw[wY.out,<-uJ.out];omega)];exact xf.out
    go_wp2_with fail;refine(CS OA Oc O _ zO aE).mono ?_;rintro e w' ⟨A'',c'',rfl,qT,nu⟩;go_wp2;go_ret;rw[<-hOT.out];exact⟨A'',c'',rfl,qT,hb.trans nu⟩
def AW{L:List Nat}{k:Nat}(h:k<L.length):L.getD k 0=L[k]:=by
 rw[bD,bI h];rfl
def DH{L:List Nat}{k:Nat}(h:¬k<L.length):L.getD k 0=0:=by
 rw[bD,cC aE];rfl
def alg(A B:Option Addr)(c d:Nat)(L M:List Nat)(w:World)(hs:Sl w A c L)(hr:Sl w B d M)(h1:L.length<=3000)(h2:M.length<=3000):
 Calls prog 247 #[.slice A L.length c,.slice B M.length d] w (tN w (ia (val L+val M))):=by
 have HLl:=aqG (rfl:L.length=L.length);obtain⟨l,hl⟩:∃ l,l=L.length:=⟨_,rfl⟩
 obtain⟨m,hm⟩:∃ m,m=M.length:=⟨_,rfl⟩
 rw[<-hl]at h1 ⊢;rw[<-hm]at h2 ⊢;have HL:=aqG hl;have HM:=aqG hm;clear hl hm HLl;go_enter func247,ntmps247;go_wp2;go_loopw [5,6,7] (λv cy i wr=>∃ (k q:Nat) (O:List Nat),(k<=l\/k<=m)/\i = .int .i64 k/\cy = .int .u64 q/\q<=1/\O.length=k/\val O+4294967296^k*q=val (L.take k)+val (M.take k)/\Ow wr w.heap.size v O/\iJ w wr) (λ_ _ i _=>3000-(intOf i).toNat)
 case atStart=>exact⟨0,0,[],.inl (cj _),rfl,rfl,aG,rfl,aK,Ow.nil _ _,iJ.refl _⟩
 case round=>
  obtain⟨k,q,O,hk,rfl,rfl,hq,hO,lP,lM,hb⟩:=hrel;have HS:=aqG (aaz (x:=L.getD k 0) (y:=M.getD k 0) hO lP (vq L k) (vq M k));have HV:=aqG lP;have HO:=aqG hO;have FE:O.length<=3000:= aE ;have Ni:k<=3000:= aE ;clear lP hO hk;obtain⟨OA,Oc,rfl,zO⟩:=lM.sl;have uO:=λz:Nat=>λh:z<8589934593=>wQ z aE 
  by_cases hl:k<l
  .have Ux:(k:Int)<l:= aE ;have uN:k<L.length:=by have:=HL.out;omega
   obtain⟨ab,ao,rfl,_,c1⟩:=(hs.below hb).lR uN;have nd:L[k]<4294967296:=hs.ok.get uN;rw[AW uN]at HS;generalize L[k]=x at *
   clear uN;by_cases hm:k<m
   .have Jj:(k:Int)<m:= aE ;have pG:k<M.length:=by have:=HM.out;omega
    obtain⟨bb,bo,rfl,_,c2⟩:=(hr.below hb).lR pG;have pY:M[k]<4294967296:=hr.ok.get pG;rw[AW pG]at HS;generalize M[k]=y at *
    clear pG;have pH:=uO (q+x+y) aE;simp only[fj]at pH;clear uO;have lW:O.length+[(q+x+y)%4294967296].length<=10000000000:= aS ;go_wp2_with (at_builtin;go_must (refine rp aJ _ _ aJ w.heap.size _ O aJ (lM.alloc _) _ _ _ [(q+x+y)%4294967296] aJ aJ (Sl.tG _ _ ((q+x+y)%4294967296) aE aE) lW (qw hb.size _) ?_);intro v' w1 o9 hg pD)
    go_roundw
    case rel=>
     exact⟨k+1,(q+x+y)/4294967296,O++[(q+x+y)%4294967296],aE,by go_num,by go_num,aE,by rw[cE,HO.out];rfl,HS.out,o9,(hb.trans (iJ.alloc _ _)).own _ _ (lM.alloc _) hg⟩
    case measure=>simp[intOf];omega
   .have Jj:¬(k:Int)<m:= aE ;rw[DH (by have:=HM.out;omega)]at HS;have pH:=uO (q+x+0) aE;simp only[fj,bT]at pH;clear uO;have lW:O.length+[(q+x+0)%4294967296].length<=10000000000:= aS ;go_wp2_with (at_builtin;go_must (refine rp aJ _ _ aJ w.heap.size _ O aJ (lM.alloc _) _ _ _ [(q+x+0)%4294967296] aJ aJ (Sl.tG _ _ ((q+x+0)%4294967296) aE aE) lW (qw hb.size _) ?_);intro v' w1 o9 hg pD)
    go_roundw
    case rel=>
     exact⟨k+1,(q+x+0)/4294967296,O++[(q+x+0)%4294967296],aE,by go_num,by go_num,aE,by rw[cE,HO.out];rfl,HS.out,o9,(hb.trans (iJ.alloc _ _)).own _ _ (lM.alloc _) hg⟩
    case measure=>simp[intOf];omega
  .have Ux:¬(k:Int)<l:= aE ;have hlF:decide ((k:Int)<l)=false:=by simpa using Ux
   rw[DH (L:=L) (by have:=HL.out;omega)]at HS;by_cases hm:k<m
   .have Jj:(k:Int)<m:= aE ;have pG:k<M.length:=by have:=HM.out;omega
    obtain⟨bb,bo,rfl,_,c2⟩:=(hr.below hb).lR pG;have pY:M[k]<4294967296:=hr.ok.get pG;rw[AW pG]at HS;generalize M[k]=y at *
    clear pG;have pH:=uO (q+0+y) aE;simp only[fj,bT]at pH;clear uO;have lW:O.length+[(q+0+y)%4294967296].length<=10000000000:= aS ;go_wp2_with (at_builtin;go_must (refine rp aJ _ _ aJ w.heap.size _ O aJ (lM.alloc _) _ _ _ [(q+0+y)%4294967296] aJ aJ (Sl.tG _ _ ((q+0+y)%4294967296) aE aE) lW (qw hb.size _) ?_);intro v' w1 o9 hg pD)
    go_roundw
    case rel=>
     exact⟨k+1,(q+0+y)/4294967296,O++[(q+0+y)%4294967296],aE,by go_num,by go_num,aE,by rw[cE,HO.out];rfl,HS.out,o9,(hb.trans (iJ.alloc _ _)).own _ _ (lM.alloc _) hg⟩
    case measure=>simp[intOf];omega
   .have Jj:¬(k:Int)<m:= aE ;clear uO;have Jp:(q:Int)%4294967296=q:= aE ;have xf:Hid (ix (O++[q])=ia (val L+val M)):=by
     show ix (O++[q])=_;rw[qN (lM.ok.append (iK.cons aE iK.nil)),vk,HO.out];have h:=HV.out;rw[cT (by have:=HL.out;omega),cT (by have:=HM.out;omega)]at h;simp only[qO,Az,cU,bT];rw[h]
    have lW:O.length+[q].length<=10000000000:= aS ;go_wp2_with (at_builtin;go_must (refine rp aJ _ _ aJ w.heap.size _ O aJ (lM.alloc _) _ _ _ [q] aJ aJ (Sl.tG _ _ q aE aE) lW (qw hb.size _) ?_);intro v' w1 o9 hg pD;obtain⟨P,hP⟩:∃ P,P=O++[q]:=⟨_,rfl⟩;rw[<-hP]at o9 xf;have I3:P.length<=3001:=(by rw[hP];simp;omega);clear hP;obtain⟨A',c',rfl,oi⟩:=o9.sl)
    refine(CS A' c' P _ oi aE).mono ?_;rintro e w' ⟨A'',c'',rfl,qT,nu⟩;go_wp2;go_ret;rw[<-xf.out];exact⟨A'',c'',rfl,qT,((hb.trans (iJ.alloc _ _)).own _ _ (lM.alloc _) hg).trans nu⟩
def aof(x s:Nat)(hx:x<4294967296):bits BinOp.and IntKind.u32 ((x:Int)/2^s) 1=((x/2^s%2:Nat):Int):=by
 have h:x/2^s<4294967296:=cB (bV _ _) aE;rw[show((x:Int)/2^s)=((x/2^s:Nat):Int)by simp,show(1:Int)=((1:Nat):Int)from rfl,bits_and_u32_nat _ _ h aG,gW]
def alv(A:Option Addr)(c:Nat)(L:List Nat)(w:World)(hs:Sl w A c L)(h1:L.length<=3000)(h0:val L≠0):
 Calls prog 262 #[.slice A L.length c] w λe w'=>e = .returned (.int .i64 (jZ (val L)))/\w=w':=by
 have hz:=Fe hs.ok h0;have HB:=aqG (λk (hk:k<jZ (val L))=>Q6 h0 hk);have HE:=aqG (Q5 h0);have HV:=aqG (λk=>Lu hs.ok k);generalize jZ (val L)=t at *
 go_enter func262,ntmps262;go_wp2;go_loop [3] (λi=>∃ k:Nat,k<=t/\i = .int .i64 k) (λi=>t-(intOf i).toNat)
 case atStart=>exact⟨0,cj _,rfl⟩
 case round=>
  obtain⟨k,hk,rfl⟩:=hrel;have uN:k/32<L.length:= aE ;obtain⟨ab,ao,rfl,_,c1⟩:=hs.lR uN;have hv:=HV.out k uN;have nd:L[k/32]<4294967296:=hs.ok.get uN;generalize L[k/32]=x at *
  clear HV;have tY:=aof x (k%32) nd;rw[<-hv]at tY;clear hv;by_cases hkt:k<t
  .rw [HB.out k hkt]at tY;have hb:(bits BinOp.and IntKind.u32 ((x:Int)/2^(k%32)) 1==0)=true:=by rw[tY];rfl
   clear tY;go_wp2;go_round
   case rel=>exact⟨k+1,aE,by go_num⟩
   case measure=>simp[intOf];omega
  .obtain rfl:k=t:= aE ;rw[HE.out]at tY;have hb:(bits BinOp.and IntKind.u32 ((x:Int)/2^(k%32)) 1==0)=false:=by rw[tY];rfl
   clear tY;go_wp2;go_ret;exact⟨rfl,rfl⟩
def ale(A B:Option Addr)(c d:Nat)(L M:List Nat)(w:World)(hs:Sl w A c L)(hr:Sl w B d M)(h1:L.length<=3000)(h2:M.length<=L.length)(hle:val M<=val L):
 Calls prog 248 #[.slice A L.length c,.slice B M.length d] w (tN w (ia (val L-val M))):=by
 obtain⟨l,hl⟩:∃ l,l=L.length:=⟨_,rfl⟩
 obtain⟨m,hm⟩:∃ m,m=M.length:=⟨_,rfl⟩
 rw[<-hl]at h1 h2 ⊢;rw[<-hm]at h2 ⊢;have HL:=aqG hl;have HM:=aqG hm;clear hl hm;have HLE:=aqG hle;clear hle;go_enter func248,ntmps248;go_wp2;go_loopw [5,6,7] (λv cy i wr=>∃ (k q:Nat) (O:List Nat),k<=l/\i = .int .i64 k/\cy = .int .u64 q/\q<=1/\O.length=k/\val O+val (M.take k)=val (L.take k)+4294967296^k*q/\Ow wr w.heap.size v O/\iJ w wr) (λ_ _ i _=>l-(intOf i).toNat)
 case atStart=>exact⟨0,0,[],cj _,rfl,rfl,aG,rfl,aK,Ow.nil _ _,iJ.refl _⟩
 case round=>
  obtain⟨k,q,O,hk,rfl,rfl,hq,hO,lP,lM,hb⟩:=hrel;have HS:=aqG (λ(x y:Nat) (e1:L.getD k 0=x) (e2:M.getD k 0=y) (dd c':Nat)=>anq (x:=x) (y:=y) (d:=dd) (c':=c') hO lP ((vq L k).trans (by rw[e1])) ((vq M k).trans (by rw[e2])));have HV:=aqG lP;have HO:=aqG hO;have FE:O.length<=3000:= aE ;clear lP hO;obtain⟨OA,Oc,rfl,zO⟩:=lM.sl;by_cases hl:k<l
  .have uN:k<L.length:=by have:=HL.out;omega
   obtain⟨ab,ao,rfl,_,c1⟩:=(hs.below hb).lR uN;have nd:L[k]<4294967296:=hs.ok.get uN;have HX:=aqG (AW uN);generalize L[k]=x at *
   clear uN;by_cases hm:k<m
   .have pG:k<M.length:=by have:=HM.out;omega
    obtain⟨bb,bo,rfl,_,c2⟩:=(hr.below hb).lR pG;have pY:M[k]<4294967296:=hr.ok.get pG;have HY:=aqG (AW pG);generalize M[k]=y at *
    clear pG;have pH:=wQ (x+4294967296-(q+y)) aE;rw[show((x+4294967296-(q+y):Nat):Int)=x+4294967296-(q+y)by omega]at pH;have lW:O.length+[(x+4294967296-(q+y))%4294967296].length<=10000000000:= aS ;go_wp2_with (at_builtin;go_must (refine rp aJ _ _ aJ w.heap.size _ O aJ (lM.alloc _) _ _ _ [(x+4294967296-(q+y))%4294967296] aJ aJ (Sl.tG _ _ ((x+4294967296-(q+y))%4294967296) aE aE) lW (qw hb.size _) ?_);intro v' w1 o9 hg pD)
    go_roundw
    case rel=>
     exact⟨k+1,1-(x+4294967296-(q+y))/4294967296,O++[(x+4294967296-(q+y))%4294967296],aE,by go_num,by rw[show(1-((x:Int)+4294967296-(q+y))/4294967296)=((1-(x+4294967296-(q+y))/4294967296:Nat):Int)by omega],aE,by rw[cE,HO.out];rfl,HS.out x y HX.out HY.out _ _ aE,o9,(hb.trans (iJ.alloc _ _)).own _ _ (lM.alloc _) hg⟩
    case measure=>simp[intOf];omega
   .have Jj:¬(k:Int)<m:= aE ;have HY:=aqG (DH (L:=M) (k:=k) (by have:=HM.out;omega));have pH:=wQ (x+4294967296-q) aE;rw[show((x+4294967296-q:Nat):Int)=x+4294967296-q by omega]at pH;have lW:O.length+[(x+4294967296-q)%4294967296].length<=10000000000:= aS ;go_wp2_with (at_builtin;go_must (refine rp aJ _ _ aJ w.heap.size _ O aJ (lM.alloc _) _ _ _ [(x+4294967296-q)%4294967296] aJ aJ (Sl.tG _ _ ((x+4294967296-q)%4294967296) aE aE) lW (qw hb.size _) ?_);intro v' w1 o9 hg pD)
    go_roundw
    case rel=>
     exact⟨k+1,1-(x+4294967296-q)/4294967296,O++[(x+4294967296-q)%4294967296],aE,by go_num,by rw[show(1-((x:Int)+4294967296-q)/4294967296)=((1-(x+4294967296-q)/4294967296:Nat):Int)by omega],aE,by rw[cE,HO.out];rfl,HS.out x 0 HX.out HY.out _ _ aE,o9,(hb.trans (iJ.alloc _ _)).own _ _ (lM.alloc _) hg⟩
    case measure=>simp[intOf];omega
  .obtain rfl:k=l:= aE ;have xf:Hid (ix O=ia (val L-val M)):=by
    show ix O=_;have h:=HV.out;rw[cT (l:=L) (by have:=HL.out;omega),cT (l:=M) (by have:=HM.out;omega)]at h;rw[qN lM.ok,(Zg lM.ok HO.out h HLE.out).2]
   go_wp2_with fail;refine(CS OA Oc O _ zO aE).mono ?_;rintro e w' ⟨A'',c'',rfl,qT,nu⟩;go_wp2;go_ret;rw[<-xf.out];exact⟨A'',c'',rfl,qT,hb.trans nu⟩
def Om{O:List Nat}{p a b c o:Nat}(ho:O[p]? = some o):
 val (O.set p ((a*b+o+c)%4294967296))+4294967296^(p+1)*((a*b+o+c)/4294967296)=val O+4294967296^p*c+4294967296^p*(a*b):=by
 obtain⟨hp,rfl⟩:=cH.1 ho;have h:=Qa (x:=(a*b+O[p]+c)%4294967296) hp;have e:=congrArg (4294967296^p * ·) (dU (a*b+O[p]+c) 4294967296);simp only[bR]at e;rw[bH,bL];omega
def LJ{O:List Nat}{p c o:Nat}(ho:O[p]? = some o):
 val (O.set p ((o+c)%4294967296))+4294967296^(p+1)*((o+c)/4294967296)=val O+4294967296^p*c:=by
 have h:=Om (a:=0) (b:=0) (c:=c) ho;simpa using h
def acv{i n k N c:Nat}{O a b:List Nat}(hk:val O+4294967296^k*c=val (a.take (i+1))*val b)(ha:iK a)(hb:iK b)(hi:i<a.length)(hn:b.length=n)(hc:0<c)(hN:a.length+n<N):k<N:=by
 have h1:=mJ (ha.take (i+1));rw[cJ,dB aE]at h1;have h2:=mJ hb;rw[hn]at h2;have h3:val (a.take (i+1))*val b<4294967296^(i+1+n):=by
  rw[bE];exact gX h1 h2
 have h4:4294967296^k*1<=4294967296^k*c:=cO _ hc;have h5:4294967296^k<4294967296^(i+1+n):= aE ;have:=(aqr (aG:1<4294967296)).1 h5;omega
def aok(x y:Nat)(hx:x<4294967296)(hy:y<4294967296):IntKind.u64.wrap ((x:Int)*(y:Int))=((x*y:Nat):Int)/\x*y<=18446744065119617025:=by
 have h:x*y<=4294967295*4294967295:=dp aE aE;refine⟨?_,aE⟩;rw[IntKind.wrap_u64,<-ez];omega
def pZ(x:Nat)(h:x<18446744073709551616):IntKind.u64.wrap (x:Int)=x:=by rw[IntKind.wrap_u64];omega
def Fp.iK.Ky{L:List Nat}(h:iK L)(k:Nat)(x:Nat):iK (L.set k (x%4294967296)):=h.set k (bM _ aG)
def alq(A B:Option Addr)(c d:Nat)(L M:List Nat)(w:World)(hs:Sl w A c L)(hr:Sl w B d M)(h1:L.length<=3000)(h2:M.length<=3000):
 Calls prog 305 #[.slice A L.length c,.slice B M.length d] w (tN w (ia (val L*val M))):=by
 obtain⟨l,hl⟩:∃ l,l=L.length:=⟨_,rfl⟩
 obtain⟨m,hm⟩:∃ m,m=M.length:=⟨_,rfl⟩
 rw[<-hl]at h1 ⊢;rw[<-hm]at h2 ⊢;have HL:=aqG hl;have HM:=aqG hm;clear hl hm;have pH:=Ei (l+m+1) aE;rw[show((l+m+1:Nat):Int)=l+m+1 by omega]at pH;have vU:=aqG (Rw.yD w (l+m+1));go_enter func305,ntmps305;go_wp2;go_loopw [6] (λi wr=>∃ (k:Nat) (O:List Nat),k<=l/\i = .int .i64 k/\O.length=l+m+1/\iK O/\val O=val (L.take k)*val M/\Rw wr w.heap.size O/\iJ w wr) (λi _=>l-(intOf i).toNat)
 case atStart=>
  exact⟨0,List.replicate (l+m+1) 0,cj _,rfl,aK,iK.CT _,by simp[AB],vU.out,iJ.alloc _ _⟩
 case round=>
  obtain⟨i,O,hi,rfl,hO,lE,lP,hR,hb⟩:=hrel;have HV:=aqG lP;have HO:=aqG hO;clear lP hO;by_cases iL:i<l
  .have Jd:i<L.length:=by have:=HL.out;omega
   obtain⟨x,hx⟩:∃ x,x=L[i]:=⟨_,rfl⟩
   have HX:=aqG hx;have nd:x<4294967296:=by rw[hx];exact hs.ok.get Jd
   have HXc:=aqG (λw (h:Sl w A c L)=>hx▸h.lR Jd);clear hx;have HST:=aqG (show val (L.take (i+1))=val (L.take i)+4294967296^i*x by rw[HX.out];exact yR L i Jd);clear HX Jd;go_wp2;obtain⟨wo,rfl⟩:∃ wo:World,wo=wr:=⟨_,rfl⟩
   go_loopw [7,8] (λcy k wr=>∃ (j q:Nat) (O:List Nat),j<=m/\k = .int .i64 j/\cy = .int .u64 q/\q<4294967296/\O.length=l+m+1/\iK O/\val O+4294967296^(i+j)*q=val (L.take i)*val M+4294967296^i*(x*val (M.take j))/\Rw wr w.heap.size O/\iJ w wr) (λ_ k _=>m-(intOf k).toNat)
   case atStart=>
    exact⟨0,0,O,cj _,rfl,rfl,aG,HO.out,lE,by simp[HV.out],hR,hb⟩
   case round=>
    clear HO HV lE hR;obtain⟨j,q,O,hj,rfl,rfl,hq,hO,lE,lP,hR,hb⟩:=hrel;have HV:=aqG lP;have HO:=aqG hO;clear lP hO;by_cases FM:j<m
    .have Je:j<M.length:=by have:=HM.out;omega
     obtain⟨y,hy⟩:∃ y,y=M[j]:=⟨_,rfl⟩
     have pY:y<4294967296:=by rw[hy];exact hr.ok.get Je
     obtain⟨ab,ao,e1,_,c1⟩:=HXc.out _ (hs.below hb);obtain⟨bb,bo,e2,_,c2⟩:=(hr.below hb).lR Je;have HYS:=aqG (show val (M.take (j+1))=val (M.take j)+4294967296^j*y by rw[hy];exact yR M j Je);rw[<-hy]at c2;clear hy Je HXc;subst e1 e2;have hp:i+j<O.length:=by have:=HO.out;omega
     have ho:=bI hp;have agB:O[i+j]<4294967296:=lE.get hp;have c3:=hR.cell ho;have c4:=hR.frozen (i+j);have HS:=aqG (Om (a:=x) (b:=y) (c:=q) ho);generalize O[i+j]=o at *
     clear ho hp;have Jo:=λv=>lE.Ky (i+j) v
     have HR2:=aqG (λv:Nat=>hR.set (i+j) v);have HE2:=aqG (λ(n:Nat) (v:Value)=>(below_drewN hb n).setCell (p:=⟨w.heap.size,i+j,none⟩) (bC _) v);have HOK:=aqG Jo;have HNEW:=aqG (show val (L.take i)*val M+4294967296^i*(x*val (M.take (j+1)))=val (L.take i)*val M+4294967296^i*(x*val (M.take j))+4294967296^(i+j)*(x*y)by
      rw[HYS.out,bR x,bR (4294967296^i),bE,df];congr 2;rw[de x,bL])
     obtain⟨Cq,Bg⟩:=aok x y nd pY;generalize x*y=z at *
     have zU:IntKind.u64.wrap ((z:Int)+o)=(z:Int)+o:=by rw[IntKind.wrap_u64];omega
     have ug:IntKind.u64.wrap ((z:Int)+o+q)=(z:Int)+o+q:=by rw[IntKind.wrap_u64];omega
     have uO:=wQ (z+o+q) aE;simp only[fj]at uO;have yl:IntKind.i64.wrap ((i:Int)+j)=(i:Int)+j:=i64_in _ aE aE;have xg:(0:Int)<=i+j:= aE ;have Us:((i:Int)+j).toNat=i+j:= aE ;have hi4:(i:Int)+j<l+m+1:= aE ;go_wp2;go_quiet (fail);go_wp2;go_roundw
     case rel=>
      exact⟨j+1,(z+o+q)/4294967296,O.set (i+j) ((z+o+q)%4294967296),aE,by go_num,by go_num,aE,by rw[cV];exact HO.out,HOK.out _,by rw[HNEW.out,<-HV.out];exact HS.out,HR2.out _,HE2.out _ _⟩
     case measure=>simp[intOf];omega
    .obtain rfl:j=m:= aE ;have HV2:=aqG (show val O+4294967296^(i+j)*q=val (L.take (i+1))*val M by
      rw[HST.out,HV.out,show M.take j=M from cT (by rw[HM.out];exact bC _),ct,bL])
     clear HV;go_wp2;obtain⟨wo,rfl⟩:∃ wo:World,wo=wr:=⟨_,rfl⟩
     go_loopw [7,10] (λcy k wr=>∃ (p q:Nat) (O:List Nat),p<=l+j+1/\k = .int .i64 p/\cy = .int .u64 q/\q<4294967296/\O.length=l+j+1/\iK O/\val O+4294967296^p*q=val (L.take (i+1))*val M/\Rw wr w.heap.size O/\iJ w wr) (λ_ k _=>l+j+1-(intOf k).toNat)
     case atStart=>
      exact⟨i+j,q,O,aE,by go_num,rfl,hq,HO.out,lE,HV2.out,hR,hb⟩
     case round=>
      clear HO HV2 lE hR hq;obtain⟨p,q,O,hp,rfl,rfl,hq,hO,lE,lP,hR,hb⟩:=hrel;have HV:=aqG lP;have HO:=aqG hO;clear lP hO;by_cases hc:0<q
      .have hpN:p<l+j+1:=acv HV.out hs.ok hr.ok (by have:=HL.out;omega) HM.out.symm hc (by have:=HL.out;omega);have Nr:p<O.length:=by have:=HO.out;omega
       have ho:=bI Nr;have agB:O[p]<4294967296:=lE.get Nr;have c3:=hR.cell ho;have c4:=hR.frozen p;have HS:=aqG (LJ (c:=q) ho);generalize O[p]=o at *
       clear ho Nr;have HR2:=aqG (λv:Nat=>hR.set p v);have HE2:=aqG (λv:Value=>hb.setCell (p:=⟨w.heap.size,p,none⟩) (bC _) v);have HOK:=aqG (λv=>lE.Ky p v);have uO:=wQ (o+q) aE;simp only[fj]at uO;have D4:decide ((q:Int)>0)=true:=bA aE;have uQ:decide (0<q)=true:=bA hc;go_wp2;go_roundw
       case rel=>
        exact⟨p+1,(o+q)/4294967296,O.set p ((o+q)%4294967296),aE,by go_num,by go_num,aE,by rw[cV];exact HO.out,HOK.out _,by rw[<-HV.out];exact HS.out,HR2.out _,HE2.out _⟩
       case measure=>simp[intOf];omega
      .obtain rfl:q=0:= aE ;go_wp2;go_roundw
       case rel=>
        exact⟨i+1,O,aE,by go_num,HO.out,lE,by rw[<-HV.out];simp,hR,hb⟩
       case measure=>simp[intOf];omega
  .obtain rfl:i=l:= aE ;have HF:=aqG (show ix O=ia (val L*val M)by
    rw[qN lE,HV.out,show L.take i=L from cT (by rw[HL.out];exact bC _)])
   have ue:=hR.sl lE (by rw[HO.out];omega);obtain⟨n,hn⟩:∃ n,n=O.length:=⟨_,rfl⟩
   have kg:i+m+1=n:=by rw[hn];exact HO.out.symm
   have hT:=aqG (CS _ _ O _ ue (by rw[HO.out];omega));rw[HO.out]at hT;clear hn kg;go_wp2_with fail;refine hT.out.mono ?_;rintro e w' ⟨A'',c'',rfl,qT,nu⟩;go_wp2;go_ret;rw[<-HF.out];exact⟨A'',c'',rfl,qT,hb.trans nu⟩
def GX(s:Bool)(A:Option Addr)(c:Nat)(L:List Nat)(e:Int)(w:World)(hs:Sl w A c L)(hlen:L.length<=3000)(lv:-1000000<=e)(kQ:e<=1000000):
 Calls prog 186 #[.bool s,.slice A L.length c,.int .i64 e] w (uz w (canon s (val L) e)):=by
 by_cases h0:val L=0
 .have pk:=aqG (show canon s (val L) e=jD by unfold canon;rw[bw h0];rfl);have Nx:ix L=[]:=by rw[qN hs.ok,h0,nT]
  have hT:=aqG (λw (h:Sl w A c L)=>CS A c L w h aE);rw[Nx]at hT;clear Nx h0;go_enter func186,ntmps186;go_wp2_with fail;refine(hT.out _ (hs.alloc _)).mono ?_;rintro e w' ⟨A',c',rfl,oi,hb⟩;have bx:=(jL.new w false none 0 0 0).ext hb;have b0:=bx.c0;have b1:=bx.c1;have b2:=bx.c2;have f0:=bx.fr 0;have f1:=bx.fr 1;have f2:=bx.fr 2;go_wp2;rw[pk.out];have hz:ia jD.m=[]:=nT;exact tg rfl rfl rfl (bx.set _ _ _ _ _) (by rw[hz];rfl) (by rw[hz];exact bx.tK (Sl.nil _) _ _ _ _ _) (jL.sY ((iJ.alloc _ _).trans hb) (bC _) _ _ _ _ _)
 .have pk:=aqG (show canon s (val L) e=⟨s,val L/2^jZ (val L),e+jZ (val L)⟩by unfold canon;rw[bu h0]);have hT:=aqG (λw (h:Sl w A c L)=>CS A c L w h aE);have UK:=pq L;unfold mC at UK;have hv:=oZ L;have lE:=hs.ok.ix;generalize ix L=M at *
  rw[<-hv]at h0 pk ⊢;clear hv;have hZ:=aqG (λA c w (h:Sl w A c M)=>alv A c M w h aE h0);have A8:jZ (val M)<=100000:=by have:=Fe lE h0;omega
  have hR:=aqG (λA c w (h:Sl w A c M)=>alk A c M (jZ (val M)) w h aE A8);have tp:M.length≠0:=by intro h;rw[dI h]at h0;exact h0 rfl
  generalize val M/2^jZ (val M)=q at *
  generalize jZ (val M)=t at *
  obtain⟨m,hm⟩:∃ m,m=M.length:=⟨_,rfl⟩
  go_enter func186,ntmps186;go_wp2_with fail;refine(hT.out _ (hs.alloc _)).mono ?_;rintro e' w1 ⟨A1,c1,rfl,tA,kP⟩;go_wp2_with fail;refine(hZ.out _ _ _ tA).mono ?_;rintro e' w2 ⟨rfl,rfl⟩;go_wp2_with fail;refine(hR.out _ _ _ tA).mono ?_;rintro e' w2 ⟨A2,c2,rfl,kV,mK⟩;have hb:=kP.trans mK;have bx:=(jL.new w false none 0 0 0).ext hb;have b0:=bx.c0;have b1:=bx.c1;have b2:=bx.c2;have f0:=bx.fr 0;have f1:=bx.fr 1;have f2:=bx.fr 2;go_wp2;rw[pk.out];exact tg rfl rfl rfl (bx.set _ _ _ _ _) rfl (bx.tK kV _ _ _ _ _) (jL.sY ((iJ.alloc _ _).trans hb) (bC _) _ _ _ _ _)
def adM(A:Option Addr)(c:Nat)(L:List Nat)(w:World)(hs:Sl w A c L)(h1:L.length<=3000)(h0:val L≠0)(hT:Tb w):
 Calls prog 300 #[.slice A L.length c] w λe w'=>e = .returned (.int .i64 (jZ (val L)))/\w=w':=by
 have lE:=hs.ok;have HV:=aqG (λi hi h hx=>acU lE i hi h hx);have H0:=aqG h0;clear h0;go_enter func300,ntmps300;go_wp2;go_loop [3,8] (λn i=>∃ k:Nat,k<=L.length/\i = .int .i64 k/\n = .int .i64 ((32*k:Nat):Int)/\∀ j,(hj:j<k)->L[j]? = some 0) (λ_ i=>L.length-(intOf i).toNat)
 case atStart=>exact⟨0,cj _,rfl,rfl,λj hj=> aE⟩
 case round=>
  obtain⟨k,hk,rfl,rfl,hz⟩:=hrel;have HZ:=aqG hz;clear hz;by_cases iL:k<L.length
  .obtain ⟨ab,ao,rfl,_,c1⟩:=hs.lR iL;have nd:L[k]<4294967296:=lE.get iL;have HG:=aqG (bI iL);have HC:=aqG (λhx=>HV.out k iL (λj hj=>by have:=HZ.out j hj;rw[bI aE]at this;simpa using this) hx);clear HV;generalize L[k]=x at *
   by_cases hx:x=0
   .have HX:=aqG hx;clear hx;have hb:((x:Int) != 0)=false:=by have:=HX.out;simp;omega
    go_wp2;go_round
    case rel=>exact⟨k+1,aE,by go_num,by go_num,λj hj=>by
     by_cases e:j=k
     .subst e;rw[HG.out,HX.out]
     .exact HZ.out j aE⟩
    case measure=>simp[intOf];omega
   .have hb:((x:Int) != 0)=true:= aS ;have HX:=aqG (HC.out hx);have apk:jZ x<=32:=by
     have h1:=GL hx;rcases ew 32 (jZ x)with h|h
     .have:=fk (a:=2) aG h;have e:(2:Nat)^32=4294967296:= aG ;omega
     .exact h
    go_wp2_with (go_at_call 355;refine(aoc x hx nd _ hT).mono ?_;rintro e w' ⟨rfl,rfl⟩)
    go_ret;exact⟨oX (by rw[HX.out];simp),rfl⟩
  .exfalso;have:val L=0:=by
    rw[Hl];intro y hy;obtain⟨j,hj,rfl⟩:=apV hy;have:=HZ.out j aE;rw[bI hj]at this;simpa using this
   exact H0.out this
def IH(s:Bool)(A:Option Addr)(c:Nat)(L:List Nat)(e:Int)(w:World)(hs:Sl w A c L)(_hlen:L.length<=100000)(nR:(ix L).length<=256)(lv:-1000000<=e)(kQ:e<=1000000)(rU:Tb w):
 Calls prog 255 #[.bool s,.slice A L.length c,.int .i64 e] w (uz w (canon s (val L) e)):=by
 have hT:=aqG (λw (h:Sl w A c L)=>adQ A c L w h);have kV:=hs.ur;have hv:=oZ L;have lE:=hs.ok.ix;have Cm:=Av L;generalize ix L=M at *
 rw[<-hv];clear hv;by_cases h0:val M=0
 .have pk:=aqG (show canon s (val M) e=jD by unfold canon;rw[bw h0];rfl);have tp:Hid (M.length=0):=by
   show M.length=0;rw[Cm.Fu lE,h0,nT];rfl
  obtain⟨m,hm⟩:∃ m,m=M.length:=⟨_,rfl⟩
  rw[<-hm]at hT tp;clear hm h0;obtain rfl:m=0:=tp.out;clear tp;go_enter func255,ntmps255;go_wp2_with fail;refine(hT.out _ (hs.alloc _)).mono ?_;rintro e w' ⟨rfl,rfl⟩;have bx:=jL.new w false none 0 0 0;have b0:=bx.c0;have b1:=bx.c1;have b2:=bx.c2;have f0:=bx.fr 0;have f1:=bx.fr 1;have f2:=bx.fr 2;go_wp2;rw[pk.out];have hz:ia jD.m=[]:=nT;exact tg rfl rfl rfl bx (by rw[hz];rfl) (by rw[hz];exact Sl.nil _) (iJ.alloc _ _)
 .have pk:=aqG (show canon s (val M) e=⟨s,val M/2^jZ (val M),e+jZ (val M)⟩by unfold canon;rw[bu h0]);have hZ:=aqG (λA c w (h:Sl w A c M) (ht:Tb w)=>adM A c M w h aE h0 ht);have A8:jZ (val M)<=65536:=by have:=Fe lE h0;omega
  have hR:=aqG (λA c w (h:Sl w A c M)=>Wn A c M (jZ (val M)) w h nR A8);have tp:M.length≠0:=by intro h;rw[dI h]at h0;exact h0 rfl
  have vZ:(ia (val M/2^jZ (val M))).length<=256:=by
   refine rE (cB (bV _ _) ?_);exact bW (mJ lE) (bN aG nR)
  generalize val M/2^jZ (val M)=q at *
  generalize jZ (val M)=t at *
  have hK:=aqG (λA c w (h:Sl w A c (ia q))=>LM A c (ia q) w h aE);have hP:=aqG (λA c w (h:Sl w A c (ia q))=>LL A c (ia q) w h);obtain⟨Q,hQ⟩:∃ Q,Q=ia q:=⟨_,rfl⟩
  have HQ:=aqG hQ;rw[<-hQ]at hR hK hP vZ;clear hQ;go_enter func255,ntmps255;go_wp2_with fail;refine(hT.out _ (hs.alloc _)).mono ?_;rintro e' w1 ⟨rfl,rfl⟩;go_wp2_with fail;refine(hZ.out _ _ _ (kV.alloc _) (rU.alloc _)).mono ?_;rintro e' w2 ⟨rfl,rfl⟩;go_wp2_with fail;refine(hR.out _ _ _ (kV.alloc _)).mono ?_;rintro e' w2 ⟨A2,c2,rfl,agF,mK⟩;go_wp2_with fail;refine(hK.out _ _ _ agF).mono ?_;rintro e' w3 ⟨A3,c3,rfl,D5,pW⟩;go_wp2_with fail;refine(hP.out _ _ _ D5).mono ?_;rintro e' w4 ⟨rfl,rfl⟩;have hb:=mK.trans pW;have bx:=(jL.new w false none 0 0 0).ext hb;have b0:=bx.c0;have b1:=bx.c1;have b2:=bx.c2;have f0:=bx.fr 0;have f1:=bx.fr 1;have f2:=bx.fr 2;go_wp2;rw[pk.out];rw[HQ.out]at D5 ⊢;exact tg rfl rfl rfl (bx.set _ _ _ _ _) rfl (bx.tK D5.RA _ _ _ _ _) (jL.sY ((iJ.alloc _ _).trans hb) (bC _) _ _ _ _ _)
def L6(A:Option Addr)(c:Nat)(L:List Nat)(w:World)(hs:Sl w A c L)(hlen:L.length<=100000000):
 Calls prog 245 #[.slice A L.length c] w λe w'=>e = .returned (.int .i64 (iq (val L)))/\w=w':=by
 have H:=aqG (Wg A c L w hs hlen);go_enter func245,ntmps245;go_wp2_with fail;refine H.out.mono ?_;rintro e w' ⟨rfl,rfl⟩;go_wp2;go_ret;exact⟨rfl,rfl⟩
def uU(m:Nat)(e:Int):Bool:=decide (oB ⟨false,m,e⟩)
def NH(s:Bool)(A:Option Addr)(c:Nat)(L:List Nat)(e:Int)(w:World)(hs:Sl w A c L)(hlen:L.length<=100000000)(lv:-9223372036854775808<=e)(kQ:e<=9223372036854775807):
 Calls prog 167 #[.agg #[.bool s,.slice A L.length c,.int .i64 e]] w λr w'=>r = .returned (.bool (uU (val L) e))/\iJ w w':=by
 have H:=aqG (λw (h:Sl w A c L)=>L6 A c L w h hlen);have hn:Hid (uU (val L) e=decide (iq (val L)=0\/iq (val L)<=4096 /\ -16384<=e/\e<=16384/\(iq (val L):Int)+e<=16384)):=by
  have h:iq (val L)=0↔val L=0:=by
   constructor
   .intro h;apply ca;intro h0;have:=nv h0;omega
   .intro h;rw[h];rfl
  exact aqb.2 (or_congr h.symm Iff.rfl)
 have zp:iq (val L)<=32*L.length:=ln.2 (by rw[<-oE];exact mJ hs.ok);generalize iq (val L)=n at *
 generalize uU (val L) e=b at *
 have ago:n=0\/(0<n/\4096<n)\/(0<n/\n<=4096/\e < -16384)\/(0<n/\n<=4096 /\ -16384<=e/\16384<e)\/(0<n/\n<=4096 /\ -16384<=e/\e<=16384/\16384<(n:Int)+e)\/(0<n/\n<=4096 /\ -16384<=e/\e<=16384/\(n:Int)+e<=16384):= aE ;rcases ago with h|⟨h,h1⟩|⟨h,h1,h2⟩|⟨h,h1,h2,h3⟩|⟨h,h1,h2,h3,h4⟩|⟨h,h1,h2,h3,h4⟩
 .subst h;have hb:b=true:=by rw[hn.out];simp
  clear hn;subst hb;go_enter func167,ntmps167;go_wp2_with fail;refine(H.out _ (hs.alloc _)).mono ?_;rintro r w' ⟨rfl,rfl⟩;go_wp2;go_ret;exact⟨rfl,iJ.alloc _ _⟩
 .have hb:b=false:=by rw[hn.out];simp;omega
  have qR:((n:Int)==0)=false:= aS ;have sP:decide ((n:Int)<=4096)=false:= aS ;clear hn;subst hb;go_enter func167,ntmps167;go_wp2_with fail;refine(H.out _ (hs.alloc _)).mono ?_;rintro r w' ⟨rfl,rfl⟩;go_wp2;go_ret;exact⟨rfl,iJ.alloc _ _⟩
 .have hb:b=false:=by rw[hn.out];simp;omega
  have qR:((n:Int)==0)=false:= aS ;have sP:decide ((n:Int)<=4096)=true:= aS ;have kg:decide (-16384<=e)=false:= aS ;clear hn;subst hb;go_enter func167,ntmps167;go_wp2_with fail;refine(H.out _ (hs.alloc _)).mono ?_;rintro r w' ⟨rfl,rfl⟩;go_wp2;go_ret;exact⟨rfl,iJ.alloc _ _⟩
 .have hb:b=false:=by rw[hn.out];simp;omega
  have qR:((n:Int)==0)=false:= aS ;have sP:decide ((n:Int)<=4096)=true:= aS ;have kg:decide (-16384<=e)=true:= aS ;have D0:decide (e<=16384)=false:= aS ;clear hn;subst hb;go_enter func167,ntmps167;go_wp2_with fail;refine(H.out _ (hs.alloc _)).mono ?_;rintro r w' ⟨rfl,rfl⟩;go_wp2;go_ret;exact⟨rfl,iJ.alloc _ _⟩
 .have hb:b=false:=by rw[hn.out];simp;omega
  have qR:((n:Int)==0)=false:= aS ;have sP:decide ((n:Int)<=4096)=true:= aS ;have kg:decide (-16384<=e)=true:= aS ;have D0:decide (e<=16384)=true:= aS ;have hn4:decide ((n:Int)+e<=16384)=false:= aS ;clear hn;subst hb;go_enter func167,ntmps167;go_wp2_with fail;refine(H.out _ (hs.alloc _)).mono ?_;rintro r w' ⟨rfl,rfl⟩;go_wp2;go_ret;exact⟨rfl,iJ.alloc _ _⟩
 .have hb:b=true:=by rw[hn.out];simp;omega
  have qR:((n:Int)==0)=false:= aS ;have sP:decide ((n:Int)<=4096)=true:= aS ;have kg:decide (-16384<=e)=true:= aS ;have D0:decide (e<=16384)=true:= aS ;have hn4:decide ((n:Int)+e<=16384)=true:= aS ;clear hn;subst hb;go_enter func167,ntmps167;go_wp2_with fail;refine(H.out _ (hs.alloc _)).mono ?_;rintro r w' ⟨rfl,rfl⟩;go_wp2;go_ret;exact⟨rfl,iJ.alloc _ _⟩
def pr(s:Bool)(L:List Nat)(e:Int):Prop:=nY L/\L.length<=256/\Dy.ik ⟨s,val L,e⟩
def Sm(s:Bool)(e:Int):pr s [] e↔s=false/\e=0:=by
 unfold pr;constructor
 .rintro ⟨_,_,hc,_⟩;rcases hc with⟨_,h1,h2⟩|h
  .exact ⟨h1,h2⟩
  .simp at h
 .rintro ⟨rfl,rfl⟩;exact⟨nY.nil,aK,q6⟩
def Sk{s:Bool}{L:List Nat}{e:Int}{x y:Nat}(hx:L[0]? = some x)(hy:L[L.length-1]? = some y):
 pr s L e↔L.length<=256/\x%2=1/\y≠0/\uU (val L) e=true:=by
 have UD:val L%2=x%2:=by
  cases L with
  |nil=>simp at hx
  |cons z l=>simp at hx;subst hx;simp only[qO];omega
 have Cm:nY L↔y≠0:=by
  rw[BJ];obtain⟨h1,h2⟩:=cH.1 hy;constructor
  .intro h;rw[<-h2];exact h aE 
  .intro h _;rw[h2];exact h
 unfold pr uU;rw[Cm,gY];constructor
 .rintro ⟨h1,h2,hc,hr⟩;have xm:oB ⟨false,val L,e⟩:=hr;refine⟨h2,?_,h1,xm⟩;rcases hc with⟨h,_,_⟩|h
  .exfalso;have:=(Cm.2 h1).AA (by intro h0;subst h0;simp at hx);simp only at h;omega
  .rw [<-UD];exact h
 .rintro ⟨h1,h2,h3,h4⟩;exact⟨h3,h1,.inr (by show val L%2=1;rw[UD];exact h2),h4⟩
def rO{b:Bool}{P:Prop}(h:b=true↔P)(hn:¬P):b=false:=by
 cases b
 .rfl
 .exact absurd (h.1 rfl) hn
def Lt{b:Bool}{P:Prop}(h:b=true↔P)(hn:P):b=true:=h.2 hn
def abk{b v:Bool}{P:Prop}(h:b=true↔P)(hn:P↔v=true):b=v:=by
 cases b<;>cases v<;>simp_all
def B0(s:Bool)(A:Option Addr)(c:Nat)(L:List Nat)(e:Int)(w:World)(b:Bool)(hs:Sl w A c L)(lv:-9223372036854775808<=e)(kQ:e<=9223372036854775807)(hb:b=true↔pr s L e):
 Calls prog 92 #[.agg #[.bool s,.slice A L.length c,.int .i64 e]] w λr w'=>r = .returned (.bool b)/\iJ w w':=by
 have DP:=hs.cap;have A8:=hs.qx;by_cases hL:L=[]
 .subst hL;rw[Sm]at hb;cases s
  .by_cases h:e=0
   .subst h;have:b=true:=by simpa using hb
    clear hb;subst this;go_enter func92,ntmps92;go_wp2;go_ret;exact⟨rfl,iJ.alloc _ _⟩
   .have:b=false:=rO hb (by simp[h]);have h':(e==0)=false:= aS ;clear hb;subst this;go_enter func92,ntmps92;go_wp2;go_ret;exact⟨rfl,iJ.alloc _ _⟩
  .have:b=false:=rO hb aK ;clear hb;subst this;go_enter func92,ntmps92;go_wp2;go_ret;exact⟨rfl,iJ.alloc _ _⟩
 .have tz:0<L.length:=eR.2 hL;clear hL;obtain⟨ab,ao,rfl,_,c1⟩:=hs.lR tz;obtain⟨ab',ao',e',_,c2⟩:=hs.lR (i:=L.length-1) aE;cases e';have nd:=hs.ok.get tz;have pY:=hs.ok.get (aE:L.length-1<L.length);rw[Sk (bI tz) (bI (aE:L.length-1<L.length))]at hb;have c1':w.cell? ⟨ab,ao,none⟩=some (.int .u32 (L[0]:Int)):=c1;clear c1;generalize L[0]=x at *
  generalize L[L.length-1]=y at *
  have HB:=aqG hb;clear hb;have H:=aqG (λw (h:Sl w (some ⟨ab,ao,none⟩) c L) (hl:L.length<=256)=>NH s _ c L e w h aE lv kQ);obtain⟨n,hn⟩:∃ n,n=L.length:=⟨_,rfl⟩
  rw[<-hn]at tz c2 H HB DP ⊢;clear hn;generalize uU (val L) e=v at *
  have qR:((n:Int)==0)=false:= aS ;by_cases h1:n<=256
  .have sP:decide ((n:Int)<=256)=true:= aS ;by_cases h2:x%2=1
   .have kg:((x:Int)%2==1)=true:= aS ;by_cases h3:y=0
    .have:b=false:=rO HB.out (by simp[h3]);have D0:((y:Int) != 0)=false:= aS ;clear HB;subst this;go_enter func92,ntmps92;go_wp2;go_ret;exact⟨rfl,iJ.alloc _ _⟩
    .have:b=v:=abk HB.out (by simp[h1,h2,h3]);have D0:((y:Int) != 0)=true:= aS ;clear HB;subst this;go_enter func92,ntmps92;go_wp2_with fail;refine(H.out _ (hs.alloc _) h1).mono ?_;rintro r w' ⟨rfl,nu⟩;go_wp2;go_ret;exact⟨rfl,(iJ.alloc _ _).trans nu⟩
   .have:b=false:=rO HB.out (λh=>h2 h.2.1);have kg:((x:Int)%2==1)=false:= aS ;clear HB;subst this;go_enter func92,ntmps92;go_wp2;go_ret;exact⟨rfl,iJ.alloc _ _⟩
  .have:b=false:=rO HB.out (λh=>h1 h.1);have sP:decide ((n:Int)<=256)=false:= aS ;clear HB;subst this;go_enter func92,ntmps92;go_wp2;go_ret;exact⟨rfl,iJ.alloc _ _⟩
def N8{n k:Nat}(h:iq n<=32*k):(ia n).length<=k:=rE (by rw[oE];exact ln.1 h)
def adD(d:Dy):pr d.neg (ia d.m) d.e↔d.ik:=by
 unfold pr;rw[kf];constructor
 .exact λh=>h.2.2
 .intro h;refine⟨wJ _,?_,h⟩;rcases h.range with h0|⟨h1,_⟩
  .rw [h0,nT];simp
  .exact N8 aE 
def pr.Fu{s:Bool}{L:List Nat}{e:Int}(h:pr s L e)(hk:iK L):L=ia (val L):=h.1.Fu hk
def pr.len{s:Bool}{L:List Nat}{e:Int}(h:pr s L e):L.length<=256:=h.2.1
def pr.bits{s:Bool}{L:List Nat}{e:Int}(h:pr s L e):iq (val L)<=4096:=by
 rcases h.2.2.range with h0|⟨h1,_⟩
 .simp only at h0;rw[h0];decide
 .exact h1
def pr.exp{s:Bool}{L:List Nat}{e:Int}(h:pr s L e):-16384<=e/\e<=16384:=by
 rcases h.2.2.range with h0|⟨_,h1,h2,_⟩
 .rcases h.2.2.canon with⟨_,_,h3⟩|h3
  .simp only at h3;omega
  .simp only at h0 h3;omega
 .exact ⟨h1,h2⟩
def L7(s:Bool)(A:Option Addr)(c:Nat)(L:List Nat)(e:Int)(w:World)(hs:Sl w A c L)(hd:pr s L e):
 Calls prog 216 #[.agg #[.bool s,.slice A L.length c,.int .i64 e]] w λr w'=>r = .returned (.int .i64 (Dy.iE ⟨s,val L,e⟩))/\iJ w w':=by
 obtain⟨lv,kQ⟩:=hd.exp;have hl:=hd.len;have I9:=hd.bits;have HV:=aqG (λw (h:Sl w A c L)=>B0 s A c L e w true h aE aE (by simp[hd]));have HS:=aqG (λw (h:Sl w A c L)=>L6 A c L w h aE);by_cases h0:L=[]
 .subst h0;go_enter func216,ntmps216;go_wp2_with fail;refine(HV.out _ (hs.alloc _)).mono ?_;rintro r w' ⟨rfl,hb⟩;have bx:=(jL.new w s A 0 c e).ext hb;have b0:=bx.c0;have b1:=bx.c1;have b2:=bx.c2;go_wp2;go_ret;exact⟨rfl,(iJ.alloc _ _).trans hb⟩
 .have tz:0<L.length:=eR.2 h0;have sx:val L≠0:=by have:=hd.1.AA h0;omega
  have ht:=aqG (show Dy.iE ⟨s,val L,e⟩=iq (val L)+e by unfold Dy.iE;rw[bu sx]);clear h0 sx;generalize Dy.iE ⟨s,val L,e⟩=t at *
  generalize iq (val L)=q at *
  have hw:IntKind.i64.wrap ((q:Int)+e)=q+e:=i64_in _ aE aE;have qR:((L.length:Int)==0)=false:=bj aE;go_enter func216,ntmps216;go_wp2_with fail;refine(HV.out _ (hs.alloc _)).mono ?_;rintro r w' ⟨rfl,hb⟩;have bx:=(jL.new w s A L.length c e).ext hb;have b0:=bx.c0;have b1:=bx.c1;have b2:=bx.c2;have oi:=(hs.alloc _).below hb;go_wp2_with fail;go_region_held3 (λw'=>w'.cell? ⟨w.heap.size,1,none⟩=some (.slice A L.length c)/\w'.cell? ⟨w.heap.size,2,none⟩=some (.int .i64 e)) (go_keep)
   (first|(go_at_call 245;refine(HS.out _ ?_).mono ?_;(exact oi.drew);rintro r w'' ⟨rfl,rfl⟩))
  go_wp2;go_ret;exact⟨oX (by rw[ht.out]),Below.drew ((iJ.alloc _ _).trans hb)⟩
def adF(s:Bool)(A:Option Addr)(c:Nat)(L:List Nat)(e:Int)(w:World)(hs:Sl w A c L)(hd:pr s L e):
 Calls prog 306 #[.agg #[.bool s,.slice A L.length c,.int .i64 e]] w λr w'=>r = .returned (.int .i64 (iq (val L)))/\iJ w w':=by
 obtain⟨lv,kQ⟩:=hd.exp;have hl:=hd.len;have HV:=aqG (λw (h:Sl w A c L)=>B0 s A c L e w true h aE aE (by simp[hd]));have HS:=aqG (λw (h:Sl w A c L)=>L6 A c L w h aE);go_enter func306,ntmps306;go_wp2_with fail;refine(HV.out _ (hs.alloc _)).mono ?_;rintro r w' ⟨rfl,hb⟩;have bx:=(jL.new w s A L.length c e).ext hb;have b0:=bx.c0;have b1:=bx.c1;have b2:=bx.c2;go_wp2_with fail;refine(HS.out _ ((hs.alloc _).below hb)).mono ?_;rintro r w' ⟨rfl,rfl⟩;go_wp2;go_ret;exact⟨rfl,(iJ.alloc _ _).trans hb⟩
def L5(s:Bool)(A:Option Addr)(c:Nat)(L:List Nat)(e:Int)(w:World)(hs:Sl w A c L)(hd:pr s L e):
 Calls prog 46 #[.agg #[.bool s,.slice A L.length c,.int .i64 e]] w λr w'=>r = .returned (.int .i64 (Dy.jb ⟨s,val L,e⟩))/\iJ w w':=by
 obtain⟨lv,kQ⟩:=hd.exp;have hl:=hd.len;have HV:=aqG (λw (h:Sl w A c L)=>B0 s A c L e w true h aE aE (by simp[hd]));by_cases h0:L=[]
 .subst h0;go_enter func46,ntmps46;go_wp2_with fail;refine(HV.out _ (hs.alloc _)).mono ?_;rintro r w' ⟨rfl,hb⟩;have bx:=(jL.new w s A 0 c e).ext hb;have b0:=bx.c0;have b1:=bx.c1;have b2:=bx.c2;go_wp2;go_ret;exact⟨rfl,(iJ.alloc _ _).trans hb⟩
 .have tz:0<L.length:=eR.2 h0;have sx:val L≠0:=by have:=hd.1.AA h0;omega
  have ht:=aqG (show Dy.jb ⟨s,val L,e⟩=if s then -1 else 1 by unfold Dy.jb;rw[bu sx]);clear h0 sx;generalize Dy.jb ⟨s,val L,e⟩=t at *
  have qR:((L.length:Int)==0)=false:=bj aE;go_enter func46,ntmps46;go_wp2_with fail;refine(HV.out _ (hs.alloc _)).mono ?_;rintro r w' ⟨rfl,hb⟩;have bx:=(jL.new w s A L.length c e).ext hb;have b0:=bx.c0;have b1:=bx.c1;have b2:=bx.c2;cases s
  .go_wp2;go_ret;exact⟨oX (by rw[ht.out];rfl),(iJ.alloc _ _).trans hb⟩
  .go_wp2;go_ret;exact⟨oX (by rw[ht.out];rfl),(iJ.alloc _ _).trans hb⟩
def aeO(e:Int)(w:World)(b:Bool)(hb:b=true↔(-32768<=e/\e<=32768)):
 Calls prog 253 #[.int .i64 e] w λr w'=>r = .returned (.bool b)/\w=w':=by
 by_cases h1:-32768<=e
 .have d1:decide (-32768<=e)=true:=by simpa using h1
  by_cases h2:e<=32768
  .have d2:decide (e<=32768)=true:=by simpa using h2
   have:=Lt hb ⟨h1,h2⟩;clear hb;subst this;go_enter func253,ntmps253;go_wp2;go_ret;exact⟨rfl,rfl⟩
  .have d2:decide (e<=32768)=false:=by simpa using h2
   have:=rO hb (λh=>h2 h.2);clear hb;subst this;go_enter func253,ntmps253;go_wp2;go_ret;exact⟨rfl,rfl⟩
 .have d1:decide (-32768<=e)=false:=by simpa using h1
  have:=rO hb (λh=>h1 h.1);clear hb;subst this;go_enter func253,ntmps253;go_wp2;go_ret;exact⟨rfl,rfl⟩
def Ru(d:Dy)(A:Option Addr)(c:Nat)(w:World)(hs:Sl w A c (ia d.m))(hl:(ia d.m).length<=100000000)(lv:-10000000<=d.e)(kQ:d.e<=10000000)(hd:oB d):
 Calls prog 254 #[.agg #[.bool d.neg,.slice A (ia d.m).length c,.int .i64 d.e]] w (yY w d 0):=by
 obtain⟨s,m,e⟩:=d;simp only at *
 have hr:uU m e=true:=by unfold uU;exact bA hd
 have HV:=aqG (λw (h:Sl w A c (ia m))=>NH s A c (ia m) e w h hl aE aE);rw[kf,hr]at HV;clear hr hd;go_enter func254,ntmps254;go_wp2_with fail;refine(HV.out _ ((hs.alloc _).alloc _)).mono ?_;rintro r w' ⟨rfl,hb⟩;have bx:=((jL.new w s A (ia m).length c e).alloc (.cells #[.bool false,.slice none 0 0,.int .i64 0] 39)).ext hb;have by_:=(jL.new (w.alloc (.cells #[.bool s,.slice A (ia m).length c,.int .i64 e] 39)) false none 0 0 0).ext hb;have b0:=bx.c0;have b1:=bx.c1;have b2:=bx.c2;have bz:(w.alloc (.cells #[.bool s,.slice A (ia m).length c,.int .i64 e] 39)).heap.size=w.heap.size+1:= aK ;rw[bz]at by_;have c0:=by_.c0;have c1:=by_.c1;have c2:=by_.c2;have f0:=by_.fr 0;have f1:=by_.fr 1;have f2:=by_.fr 2;have oi:=((hs.alloc (.cells #[.bool s,.slice A (ia m).length c,.int .i64 e] 39)).alloc (.cells #[.bool false,.slice none 0 0,.int .i64 0] 39)).below hb;have nu:iJ w w':=((iJ.alloc _ _).trans (iJ.alloc _ _)).trans hb;clear bz;go_wp2;exact Dw rfl rfl rfl rfl (by_.set _ _ _ _ _) rfl (by_.tK oi _ _ _ _ _) (jL.sY nu aE _ _ _ _ _)
def acF(d:Dy)(A:Option Addr)(c:Nat)(w:World)(hs:Sl w A c (ia d.m))(hl:(ia d.m).length<=100000000)(lv:-10000000<=d.e)(kQ:d.e<=10000000)(hd:¬oB d):
 Calls prog 254 #[.agg #[.bool d.neg,.slice A (ia d.m).length c,.int .i64 d.e]] w (yY w jD 9):=by
 obtain⟨s,m,e⟩:=d;simp only at *
 have hr:uU m e=false:=by unfold uU;exact bB hd
 have HV:=aqG (λw (h:Sl w A c (ia m))=>NH s A c (ia m) e w h hl aE aE);rw[kf,hr]at HV;clear hr hd;go_enter func254,ntmps254;go_wp2_with fail;refine(HV.out _ ((hs.alloc _).alloc _)).mono ?_;rintro r w' ⟨rfl,hb⟩;have by_:=(jL.new (w.alloc (.cells #[.bool s,.slice A (ia m).length c,.int .i64 e] 39)) false none 0 0 0).ext hb;have bz:(w.alloc (.cells #[.bool s,.slice A (ia m).length c,.int .i64 e] 39)).heap.size=w.heap.size+1:= aK ;rw[bz]at by_;have c0:=by_.c0;have c1:=by_.c1;have c2:=by_.c2;have f0:=by_.fr 0;have f1:=by_.fr 1;have f2:=by_.fr 2;have nu:iJ w w':=((iJ.alloc _ _).trans (iJ.alloc _ _)).trans hb;have hz:ia jD.m=[]:=nT;have HZ:=aqG hz;clear bz hz;go_wp2;exact Dw rfl rfl rfl rfl (by_.set _ _ _ _ _) (by rw[HZ.out];rfl) (by rw[HZ.out];exact by_.tK (Sl.nil _) _ _ _ _ _) (jL.sY nu aE _ _ _ _ _)
def ah9(s:Bool)(A:Option Addr)(c:Nat)(L:List Nat)(e:Int)(w:World)(hs:Sl w A c L)(hlen:L.length<=256)(lv:-32768<=e)(kQ:e<=32768)(rU:Tb w)(hd:oB (canon s (val L) e)):
 Calls prog 362 #[.bool s,.slice A L.length c,.int .i64 e] w (yY w (canon s (val L) e) 0):=by
 have yo:decide (256<(L.length:Int))=false:=bB aE;have HE:=aqG (λw=>aeO e w true (by simp[lv,kQ]));have HC:=aqG (λw (h:Sl w A c L) (ht:Tb w)=>IH s A c L e w h aE (by have:=pq L;unfold mC at this;omega) aE aE ht);have kP:(ia (canon s (val L) e).m).length<=100000000:=by
  unfold canon;split
  .simp [nT]
  .refine bG (rE (k:=256) (cB (bV _ _) ?_)) aG ;exact bW (mJ hs.ok) (bN aG hlen)
 have mK:-10000000<=(canon s (val L) e).e/\(canon s (val L) e).e<=10000000:=by
  unfold canon;split
  .simp
  .rename_i h0;have:=Fe hs.ok h0;simp only;omega
 obtain⟨mK,pW⟩:=mK;have HK:=aqG (λA c w (h:Sl w A c (ia (canon s (val L) e).m))=>Ru _ A c w h kP mK pW hd);generalize canon s (val L) e=d at *
 clear hd kP mK pW;go_enter func362,ntmps362;go_wp2_with fail;refine(HE.out _).mono ?_;rintro r w' ⟨rfl,rfl⟩;go_wp2_with fail;refine(HC.out _ (hs.alloc _) (rU.alloc _)).mono ?_;rintro r w1 ⟨A1,c1,rfl,tA,kP⟩;go_wp2_with fail;refine(HK.out _ _ _ tA).mono ?_;rintro r w2 ⟨A2,c2,rfl,kV,mK⟩;have hb:=kP.trans mK;have bx:=(jL.new w false none 0 0 0).ext hb;have b0:=bx.c0;have b1:=bx.c1;have b2:=bx.c2;have f0:=bx.fr 0;have f1:=bx.fr 1;have f2:=bx.fr 2;go_wp2;exact Dw rfl rfl rfl rfl (bx.set _ _ _ _ _) rfl (bx.tK kV _ _ _ _ _) (jL.sY ((iJ.alloc _ _).trans hb) (bC _) _ _ _ _ _)
def aoe(x:Nat)(hx:x<4294967296):bits BinOp.and IntKind.u32 (x:Int) 1=((x%2:Nat):Int):=by
 rw[show(1:Int)=((1:Nat):Int)from rfl,bits_and_u32_nat _ _ hx aG,gW]
def agP{m:Nat}(h0:m≠0)(e:Int):uU m e=true↔(iq m<=4096 /\ -16384<=e/\e<=16384/\(iq m:Int)+e<=16384):=by
 have h:uU m e=true↔oB ⟨false,m,e⟩:=gY;rw[h];constructor
 .rintro (h|h)
  .exact absurd h h0
  .exact h
 .exact λh=>.inr h
def Ko(s:Bool)(A:Option Addr)(c:Nat)(L:List Nat)(e:Int)(w:World)(b:Bool)(hs:Sl w A c L)(lv:-9223372036854775808<=e)(kQ:e<=9223372036854775807)(hb:b=true↔pr s L e):
 Calls prog 96 #[.agg #[.bool s,.slice A L.length c,.int .i64 e]] w λr w'=>r = .returned (.bool b)/\iJ w w':=by
 have DP:=hs.cap;have A8:=hs.qx;by_cases hL:L=[]
 .subst hL;rw[Sm]at hb;cases s
  .by_cases h:e=0
   .subst h;have:b=true:=by simpa using hb
    clear hb;subst this;go_enter func96,ntmps96;go_wp2;go_ret;exact⟨rfl,iJ.alloc _ _⟩
   .have:b=false:=rO hb (by simp[h]);have h':(e==0)=false:= aS ;clear hb;subst this;go_enter func96,ntmps96;go_wp2;go_ret;exact⟨rfl,iJ.alloc _ _⟩
  .have:b=false:=rO hb aK ;clear hb;subst this;go_enter func96,ntmps96;go_wp2;go_ret;exact⟨rfl,iJ.alloc _ _⟩
 .have tz:0<L.length:=eR.2 hL;obtain⟨ab,ao,rfl,_,c1⟩:=hs.lR tz;obtain⟨ab',ao',e',_,c2⟩:=hs.lR (i:=L.length-1) aE;cases e';have nd:=hs.ok.get tz;have pY:=hs.ok.get (aE:L.length-1<L.length);rw[Sk (bI tz) (bI (aE:L.length-1<L.length))]at hb;have c1':w.cell? ⟨ab,ao,none⟩=some (.int .u32 (L[0]:Int)):=c1;have I7:=aqG (show L[L.length-1]≠0->nY L from λh=>(BJ L).2 (λ_=>h));have wZ:=aqG (show L[L.length-1]≠0->val L≠0 from λh=>by have:=((BJ L).2 (λ_=>h)).AA hL;omega);clear c1 hL;generalize L[0]=x at *
  generalize L[L.length-1]=y at *
  have HB:=aqG hb;clear hb;have H:=aqG (λw (h:Sl w (some ⟨ab,ao,none⟩) c L) (hl:L.length<=256) (ht:nY L)=>Yc _ c L w h ht aE);have hr:Hid (val L≠0->(uU (val L) e=true↔(iq (val L)<=4096 /\ -16384<=e/\e<=16384/\(iq (val L):Int)+e<=16384))):=λh0=>by
   exact agP h0 e
  obtain⟨n,hn⟩:∃ n,n=L.length:=⟨_,rfl⟩
  rw[<-hn]at tz c2 H HB DP ⊢;have HN:=aqG hn;clear hn;have qR:((n:Int)==0)=false:= aS ;by_cases h1:n<=256
  .have sP:decide (256<(n:Int))=false:=bB aE ;by_cases h3:y=0
   .have:b=false:=rO HB.out (by simp[h3]);have D0:((y:Int)==0)=true:= aS ;clear HB hr;subst this;go_enter func96,ntmps96;go_wp2;go_ret;exact⟨rfl,iJ.alloc _ _⟩
   .have D0:((y:Int)==0)=false:=bj aE ;have hand:=aoe x nd;by_cases h2:x%2=1
    .have kg:(bits BinOp.and IntKind.u32 (x:Int) 1==0)=false:=by rw[hand,h2];rfl
     clear hand;have h0:=wZ.out h3;have Cm:=I7.out h3;have zp:iq (val L)<=32*n:=ln.2 (by rw[<-oE,HN.out];exact mJ hs.ok);have HB2:Hid (b=true↔(iq (val L)<=4096 /\ -16384<=e/\e<=16384/\(iq (val L):Int)+e<=16384)):=by
      show b=true↔_;rw[HB.out,hr.out h0];simp[h1,h2,h3]
     have H2:=aqG (λw h=>H.out w h h1 Cm);clear HB hr h0 Cm I7 wZ H;generalize iq (val L)=q at *
     by_cases h4:-16384<=e
     .have d4:decide (e < -16384)=false:=bB aE ;by_cases h5:e<=16384
      .have d5:decide (16384<e)=false:=bB aE ;by_cases h6:q<=4096
       .have d6:decide ((q:Int)<=4096)=true:=bA aE ;by_cases h7:(q:Int)+e<=16384
        .have d7:decide ((q:Int)+e<=16384)=true:=bA h7;have:=Lt HB2.out ⟨h6,h4,h5,h7⟩;clear HB2;subst this;go_enter func96,ntmps96;go_wp2_with fail;refine(H2.out _ (hs.alloc _)).mono ?_;rintro r w' ⟨rfl,rfl⟩;go_wp2;go_ret;exact⟨rfl,iJ.alloc _ _⟩
        .have d7:decide ((q:Int)+e<=16384)=false:=bB h7;have:=rO HB2.out (λh=>h7 h.2.2.2);clear HB2;subst this;go_enter func96,ntmps96;go_wp2_with fail;refine(H2.out _ (hs.alloc _)).mono ?_;rintro r w' ⟨rfl,rfl⟩;go_wp2;go_ret;exact⟨rfl,iJ.alloc _ _⟩
       .have d6:decide ((q:Int)<=4096)=false:=bB aE ;have:=rO HB2.out (λh=>h6 h.1);clear HB2;subst this;go_enter func96,ntmps96;go_wp2_with fail;refine(H2.out _ (hs.alloc _)).mono ?_;rintro r w' ⟨rfl,rfl⟩;go_wp2;go_ret;exact⟨rfl,iJ.alloc _ _⟩
      .have d5:decide (16384<e)=true:=bA aE ;have:=rO HB2.out (λh=>h5 h.2.2.1);clear HB2;subst this;go_enter func96,ntmps96;go_wp2;go_ret;exact⟨rfl,iJ.alloc _ _⟩
     .have d4:decide (e < -16384)=true:=bA aE ;have:=rO HB2.out (λh=>h4 h.2.1);clear HB2;subst this;go_enter func96,ntmps96;go_wp2;go_ret;exact⟨rfl,iJ.alloc _ _⟩
    .have kg:(bits BinOp.and IntKind.u32 (x:Int) 1==0)=true:=by rw[hand,(aE:x%2=0)];rfl
     have:b=false:=rO HB.out (λh=>h2 h.2.1);clear HB hand hr;subst this;go_enter func96,ntmps96;go_wp2;go_ret;exact⟨rfl,iJ.alloc _ _⟩
  .have:b=false:=rO HB.out (λh=>h1 h.1);have sP:decide (256<(n:Int))=true:=bA aE;clear HB hr;subst this;go_enter func96,ntmps96;go_wp2;go_ret;exact⟨rfl,iJ.alloc _ _⟩
def ak9(e:Int)(w:World)(b:Bool)(hb:b=true↔(-32768<=e/\e<=32768)):
 Calls prog 184 #[.int .i64 e] w λr w'=>r = .returned (.bool b)/\w=w':=by
 by_cases h1:-32768<=e
 .have d1:decide (-32768<=e)=true:=by simpa using h1
  by_cases h2:e<=32768
  .have d2:decide (e<=32768)=true:=by simpa using h2
   have:=Lt hb ⟨h1,h2⟩;clear hb;subst this;go_enter func184,ntmps184;go_wp2;go_ret;exact⟨rfl,rfl⟩
  .have d2:decide (e<=32768)=false:=by simpa using h2
   have:=rO hb (λh=>h2 h.2);clear hb;subst this;go_enter func184,ntmps184;go_wp2;go_ret;exact⟨rfl,rfl⟩
 .have d1:decide (-32768<=e)=false:=by simpa using h1
  have:=rO hb (λh=>h1 h.1);clear hb;subst this;go_enter func184,ntmps184;go_wp2;go_ret;exact⟨rfl,rfl⟩
def ak7(d:Dy)(A:Option Addr)(c:Nat)(w:World)(hs:Sl w A c (ia d.m))(hl:(ia d.m).length<=100000000)(lv:-10000000<=d.e)(kQ:d.e<=10000000)(hd:d.ik):
 Calls prog 185 #[.agg #[.bool d.neg,.slice A (ia d.m).length c,.int .i64 d.e]] w (yY w d 0):=by
 obtain⟨s,m,e⟩:=d;simp only at *
 have HV:=aqG (λw (h:Sl w A c (ia m))=>Ko s A c (ia m) e w true h aE aE (iff_of_true rfl ((adD ⟨s,m,e⟩).2 hd)));clear hd;go_enter func185,ntmps185;go_wp2_with fail;refine(HV.out _ ((hs.alloc _).alloc _)).mono ?_;rintro r w' ⟨rfl,hb⟩;have bx:=((jL.new w s A (ia m).length c e).alloc (.cells #[.bool false,.slice none 0 0,.int .i64 0] 39)).ext hb;have by_:=(jL.new (w.alloc (.cells #[.bool s,.slice A (ia m).length c,.int .i64 e] 39)) false none 0 0 0).ext hb;have b0:=bx.c0;have b1:=bx.c1;have b2:=bx.c2;have bz:(w.alloc (.cells #[.bool s,.slice A (ia m).length c,.int .i64 e] 39)).heap.size=w.heap.size+1:= aK ;rw[bz]at by_;have c0:=by_.c0;have c1:=by_.c1;have c2:=by_.c2;have f0:=by_.fr 0;have f1:=by_.fr 1;have f2:=by_.fr 2;have oi:=((hs.alloc (.cells #[.bool s,.slice A (ia m).length c,.int .i64 e] 39)).alloc (.cells #[.bool false,.slice none 0 0,.int .i64 0] 39)).below hb;have nu:iJ w w':=((iJ.alloc _ _).trans (iJ.alloc _ _)).trans hb;clear bz;go_wp2;exact Dw rfl rfl rfl rfl (by_.set _ _ _ _ _) rfl (by_.tK oi _ _ _ _ _) (jL.sY nu aE _ _ _ _ _)
def alo(s:Bool)(A:Option Addr)(c:Nat)(L:List Nat)(e:Int)(w:World)(hs:Sl w A c L)(ht:nY L):
 Calls prog 53 #[.agg #[.bool s,.slice A L.length c,.int .i64 e]] w λr w'=>r = .returned (.int .i64 (Dy.jb ⟨s,val L,e⟩))/\iJ w w':=by
 have hl:=hs.len;by_cases h0:L=[]
 .subst h0;go_enter func53,ntmps53;go_wp2;go_ret;exact⟨rfl,iJ.alloc _ _⟩
 .have tz:0<L.length:=eR.2 h0;have sx:val L≠0:=by have:=ht.AA h0;omega
  have ht:=aqG (show Dy.jb ⟨s,val L,e⟩=if s then -1 else 1 by unfold Dy.jb;rw[bu sx]);clear h0 sx;generalize Dy.jb ⟨s,val L,e⟩=t at *
  have qR:((L.length:Int)==0)=false:=bj aE;cases s
  .go_enter func53,ntmps53;go_wp2;go_ret;exact⟨oX (by rw[ht.out];rfl),iJ.alloc _ _⟩
  .go_enter func53,ntmps53;go_wp2;go_ret;exact⟨oX (by rw[ht.out];rfl),iJ.alloc _ _⟩
def alr(s:Bool)(A:Option Addr)(c:Nat)(L:List Nat)(e:Int)(w:World)(hs:Sl w A c L)(ht:nY L)(hl:L.length<=100000)(lv:-1000000<=e)(kQ:e<=1000000):
 Calls prog 171 #[.agg #[.bool s,.slice A L.length c,.int .i64 e]] w λr w'=>r = .returned (.int .i64 (Dy.iE ⟨s,val L,e⟩))/\iJ w w':=by
 have HS:=aqG (λw (h:Sl w A c L)=>Yc A c L w h ht aE);have zp:iq (val L)<=32*L.length:=ln.2 (by rw[<-oE];exact mJ hs.ok);by_cases h0:L=[]
 .subst h0;go_enter func171,ntmps171;go_wp2;go_ret;exact⟨rfl,iJ.alloc _ _⟩
 .have tz:0<L.length:=eR.2 h0;have sx:val L≠0:=by have:=ht.AA h0;omega
  have ht:=aqG (show Dy.iE ⟨s,val L,e⟩=iq (val L)+e by unfold Dy.iE;rw[bu sx]);clear h0 sx;generalize Dy.iE ⟨s,val L,e⟩=t at *
  generalize iq (val L)=q at *
  have hw:IntKind.i64.wrap ((q:Int)+e)=q+e:=i64_in _ aE aE;have qR:((L.length:Int)==0)=false:=bj aE;have oi:=hs.alloc (.cells #[.bool s,.slice A L.length c,.int .i64 e] 39);go_enter func171,ntmps171;go_wp2_with fail;go_region_held3 (λw'=>w'.cell? ⟨w.heap.size,1,none⟩=some (.slice A L.length c)/\w'.cell? ⟨w.heap.size,2,none⟩=some (.int .i64 e)) (go_keep)
   (first|(go_at_call 170;refine(HS.out _ ?_).mono ?_;(exact oi.drew);rintro r w'' ⟨rfl,rfl⟩))
  go_wp2;go_ret;exact⟨oX (by rw[ht.out]),Below.drew (iJ.alloc _ _)⟩
def alf(s:Bool)(A:Option Addr)(c:Nat)(L:List Nat)(e:Int)(w:World)(hs:Sl w A c L)(ht:nY L):
 Calls prog 146 #[.agg #[.bool s,.slice A L.length c,.int .i64 e]] w (uz w (iU ⟨s,val L,e⟩)):=by
 have hl:=hs.len;have HL:=aqG (ht.Fu hs.ok);by_cases h0:L=[]
 .subst h0;have HZ:=aqG nT;cases s
  .go_enter func146,ntmps146;go_wp2;exact tg (d:=iU ⟨false,val [],e⟩) rfl rfl rfl (jL.sW aK _ _ _ _ _) (by show _=(ia 0).length;rw[HZ.out];rfl) (by show Sl _ _ _ (ia 0);rw[HZ.out];exact(hs.alloc _).alloc _) ((iJ.alloc _ _).trans (iJ.alloc _ _))
  .go_enter func146,ntmps146;go_wp2;exact tg (d:=iU ⟨true,val [],e⟩) rfl rfl rfl (jL.sW aK _ _ _ _ _) (by show _=(ia 0).length;rw[HZ.out];rfl) (by show Sl _ _ _ (ia 0);rw[HZ.out];exact(hs.alloc _).alloc _) ((iJ.alloc _ _).trans (iJ.alloc _ _))
 .have tz:0<L.length:=eR.2 h0;have sx:val L≠0:=by have:=ht.AA h0;omega
  have hd:=aqG (show iU ⟨s,val L,e⟩=⟨!s,val L,e⟩by unfold iU;simp[sx]);clear h0 sx ht;rw[hd.out];cases s
  .go_enter func146,ntmps146;go_wp2;exact tg (d:=⟨!false,val L,e⟩) rfl rfl rfl (jL.sW aK _ _ _ _ _) (by show _=(ia (val L)).length;rw[<-HL.out]) (by show Sl _ _ _ (ia (val L));rw[<-HL.out];exact(hs.alloc _).alloc _) ((iJ.alloc _ _).trans (iJ.alloc _ _))
  .go_enter func146,ntmps146;go_wp2;exact tg (d:=⟨!true,val L,e⟩) rfl rfl rfl (jL.sW aK _ _ _ _ _) (by show _=(ia (val L)).length;rw[<-HL.out]) (by show Sl _ _ _ (ia (val L));rw[<-HL.out];exact(hs.alloc _).alloc _) ((iJ.alloc _ _).trans (iJ.alloc _ _))
def Sl.KO(w:World)(g:Nat)(hg:w.heap.size=g)(y z:Int)(p q:Nat)(e:y=(p:Int))(e':z=(q:Int))(hp:p<4294967296)(hq:q<4294967296):
 Sl (w.alloc (.cells #[.int .u32 y,.int .u32 z] 150)) (some ⟨g,0,none⟩) 2 [p,q]:=by
 subst e e' hg;refine⟨bC _,aG,iK.cons hp (iK.cons hq iK.nil),(λh=>by cases h),λi y hy=>?_⟩;obtain⟨h1,h2⟩:=cH.1 hy;simp at h1;refine⟨_,_,rfl,aK,?_⟩;rw[cD,World.cell?_alloc_at _ _ _ _ rfl];rcases i with _|_|i
 .simp at h2;subst h2;rfl
 .simp at h2;subst h2;rfl
 .omega
def alc(n:Nat)(w:World)(hn:n<4294967296):
 Calls prog 112 #[.int .i64 n] w (uz w (canon false n 0)):=by
 have hm:=wQ n aE;have xi:(n:Int)%4294967296=n:= aE ;rw[xi]at hm;have hd:(n:Int)/4294967296=0:= aE ;have iL:¬(n:Int)<0:= aE ;have B9:decide ((n:Int)<0)=false:=bB iL;have hu:IntKind.u64.wrap (n:Int)=n:=by rw[IntKind.wrap_u64];omega
 have HC:=aqG (λ(A:Option Addr) c w (h:Sl w A c [n,0])=>GX false A c [n,0] 0 w h aK aG aG);have hv:val [n,0]=n:= aK ;rw[hv]at HC;clear hv;generalize canon false n 0=d at *
 go_enter func112,ntmps112;go_wp2_with fail;refine(HC.out _ _ _ (Sl.KO _ _ aK _ _ n 0 rfl rfl hn aG)).mono ?_;rintro r w1 ⟨A1,c1,rfl,tA,kP⟩;have pE:iJ (w.alloc (.cells #[.bool false,.slice none 0 0,.int .i64 0] 39)) w1:=(iJ.alloc _ _).trans kP;have bx:=(jL.new w false none 0 0 0).ext pE;have b0:=bx.c0;have b1:=bx.c1;have b2:=bx.c2;have f0:=bx.fr 0;have f1:=bx.fr 1;have f2:=bx.fr 2;go_wp2;exact tg rfl rfl rfl (bx.set _ _ _ _ _) rfl (bx.tK tA _ _ _ _ _) (jL.sY ((iJ.alloc _ _).trans pE) (bC _) _ _ _ _ _)
def EI{w:World}{g g' i:Nat}{v a b c:Value}(h:w.cell? ⟨g,i,none⟩=some v)(lL:g'≠g):
 (((w.setCell ⟨g',0,none⟩ a).setCell ⟨g',1,none⟩ b).setCell ⟨g',2,none⟩ c).cell? ⟨g,i,none⟩=some v:=by
 rw[World.cell?_setCell_other _ _ _ _ aO,World.cell?_setCell_other _ _ _ _ aO,World.cell?_setCell_other _ _ _ _ aO];exact h
end Go.Proofs.YtkjkcjhacddojaaGreatDoor
namespace Go.Proofs.YtkjkcjhacddojaaGreatDoor.Fp
def Dl(s:Bool)(e:Int):canon s 0 e=jD:=by unfold canon;rw[bw rfl];rfl
def Ir(s:Bool)(x:Nat)(k:Int):pB (if s then -(x:Int)else(x:Int)) k=canon s x k:=by
 unfold pB;cases s
 .have h:decide ((x:Int)<0)=false:=bB aE ;simp only[bS,bJ];rw[h,ej]
 .by_cases h:x=0
  .subst h;simp[Dl]
  .have h:decide (-(x:Int)<0)=true:=bA aE ;simp only[bQ];rw[h,fQ,ej]
def ant{s:Bool}{m n:Nat}{e f k:Int}(hm:m≠0)(hn:n≠0)(hk:min e f=k):
 jc ⟨s,m,e⟩ ⟨s,n,f⟩=canon s (m*2^(e-k).toNat+n*2^(f-k).toNat) k:=by
 unfold jc;rw[bu hm,bu hn];simp only[hk];rw[<-Ir];unfold Dy.num Dy.kr;cases s
 .simp
 .simp;congr 1;omega
def anr{s t:Bool}{m n:Nat}{e f k:Int}(hm:m≠0)(hn:n≠0)(hk:min e f=k)(hs:s≠t)(rB:n*2^(f-k).toNat<=m*2^(e-k).toNat):
 jc ⟨s,m,e⟩ ⟨t,n,f⟩=canon s (m*2^(e-k).toNat-n*2^(f-k).toNat) k:=by
 unfold jc;rw[bu hm,bu hn];simp only[hk];rw[<-Ir];unfold Dy.num Dy.kr;simp only;generalize m*2^(e-k).toNat=x at *
 generalize n*2^(f-k).toNat=y at *
 congr 1;cases s<;>cases t<;>simp at hs ⊢ <;> omega
def ans{s t:Bool}{m n:Nat}{e f k:Int}(hm:m≠0)(hn:n≠0)(hk:min e f=k)(hs:s≠t)(iL:m*2^(e-k).toNat<n*2^(f-k).toNat):
 jc ⟨s,m,e⟩ ⟨t,n,f⟩=canon t (n*2^(f-k).toNat-m*2^(e-k).toNat) k:=by
 unfold jc;rw[bu hm,bu hn];simp only[hk];rw[<-Ir];unfold Dy.num Dy.kr;simp only;generalize m*2^(e-k).toNat=x at *
 generalize n*2^(f-k).toNat=y at *
 congr 1;cases s<;>cases t<;>simp at hs ⊢ <;> omega
def ahL{L:List Nat}(h:iK L)(n:Nat):(ia (val L*2^n)).length<=L.length+n/32+1:=by
 refine rE ?_;have h1:=mJ h;rw[oE]at h1 ⊢;have h2:val L*2^n<2^(32*L.length)*2^n:=c9 h1 (bF aG);rw[<-bE]at h2;exact bW h2 (bN aG aE)
def VC{a b k:Nat}(ha:(ia a).length<=k)(hb:(ia b).length<=k):(ia (a+b)).length<=k+1:=by
 refine rE ?_;have h1:=wm ha;have h2:=wm hb;rw[bH];omega
def mU{a b:Nat}(h:a<=b):(ia a).length<=(ia b).length:=
 rE (cB h (wm (bC _)))
end Go.Proofs.YtkjkcjhacddojaaGreatDoor.Fp
namespace Go.Proofs.YtkjkcjhacddojaaGreatDoor
open Go.RowKit Fp
def mV(a b:Dy):Dy:=canon (a.neg != b.neg) (a.m*b.m) (a.e+b.e)
def ahK{a b k l:Nat}(ha:(ia a).length<=k)(hb:(ia b).length<=l):(ia (a*b)).length<=k+l:=by
 have h1:=wm ha;have h2:=wm hb;refine rE ?_;rw[bE];exact gX h1 h2
def N9{L:List Nat}{k:Nat}(h:iK L)(hl:L.length<=k):(ia (val L)).length<=k:=
 rE (bW (mJ h) (bN aG hl))
def alh(s : Bool)(A : Option Addr)(c : Nat)(L : List Nat)(e : Int)(t : Bool)(B : Option Addr)(d : Nat)(M : List Nat)(f : Int)(w : World)
    (hs : Sl w A c L) (hr : Sl w B d M) (h1 : L.length<=1000) (h2 : M.length<=1000) (e1 : -200000<=e) (e2 : e<=200000) (f1 : -200000<=f) (f2 : f<=200000):
    Calls prog 265 #[.agg #[.bool s,.slice A L.length c,.int .i64 e],.agg #[.bool t,.slice B M.length d,.int .i64 f]] w (uz w (mV ⟨s,val L,e⟩ ⟨t,val M,f⟩)) := by
  have hE : iJ w (((w.alloc (.cells #[.bool s,.slice A L.length c,.int .i64 e] 39)).alloc (.cells #[.bool t,.slice B M.length d,.int .i64 f] 39)).alloc (.cells #[.bool false,.slice none 0 0,.int .i64 0] 39)) := ((iJ.alloc _ _).trans (iJ.alloc _ _)).trans (iJ.alloc _ _);have hw : IntKind.i64.wrap (e+f)=e+f := i64_in _ aE aE;have lj := (((jL.new w s A L.length c e).alloc (.cells #[.bool t,.slice B M.length d,.int .i64 f] 39)).alloc (.cells #[.bool false,.slice none 0 0,.int .i64 0] 39)).drew;have lr := ((jL.sW (W := w.alloc (.cells #[.bool s,.slice A L.length c,.int .i64 e] 39)) (g := w.heap.size+1) aK t B M.length d f).alloc (.cells #[.bool false,.slice none 0 0,.int .i64 0] 39)).drew;have bx3 := (jL.sW (W := (w.alloc (.cells #[.bool s,.slice A L.length c,.int .i64 e] 39)).alloc (.cells #[.bool t,.slice B M.length d,.int .i64 f] 39)) (g := w.heap.size+1+1) aK false none 0 0 0).drew;have uR := (hs.below hE).drew;have zP := (hr.below hE).drew;have HE := aqG (hE.trans (iJ.drew _));clear hE;have hlen := ahK (a := val L) (b := val M) (k := 1000) (l := 1000) (N9 hs.ok h1) (N9 hr.ok h2);have HO := aqG (λA c w (h : Sl w A c (ia (val L*val M))) => GX (s != t) A c (ia (val L*val M)) (e+f) w h aE aE aE);rw[kf]at HO;have hD : mV ⟨s,val L,e⟩ ⟨t,val M,f⟩=canon (s != t) (val L*val M) (e+f) := rfl;rw[hD];have HT := aqG (λw (h : Sl w A c L) (k : Sl w B d M) => alq A B c d L M w h k aE aE);clear hD hlen;generalize canon (s != t) (val L*val M) (e+f)=D at *
  generalize val L*val M=x at *
  go_enter func265,ntmps265;go_wp2_with fail;go_region_held3 (λw' => w'.cell? ⟨w.heap.size,0,none⟩=some (.bool s)/\w'.cell? ⟨w.heap.size,1,none⟩=some (.slice A L.length c)/\w'.cell? ⟨w.heap.size,2,none⟩=some (.int .i64 e)/\w'.cell? ⟨w.heap.size+1,0,none⟩=some (.bool t)/\w'.cell? ⟨w.heap.size+1,1,none⟩=some (.slice B M.length d)/\w'.cell? ⟨w.heap.size+1,2,none⟩=some (.int .i64 f))
    (first
      |exact⟨lj.c0,lj.c1,lj.c2,lr.c0,lr.c1,lr.c2⟩
      |exact⟨(lj.ext pX).c0,(lj.ext pX).c1,(lj.ext pX).c2,(lr.ext pX).c0,(lr.ext pX).c1,(lr.ext pX).c2⟩
      |exact⟨(lj.ext (pX.trans kq)).c0,(lj.ext (pX.trans kq)).c1,(lj.ext (pX.trans kq)).c2,(lr.ext (pX.trans kq)).c0,(lr.ext (pX.trans kq)).c1,(lr.ext (pX.trans kq)).c2⟩
      |exact⟨EI (lj.ext (pX.trans kq)).c0 aE,EI (lj.ext (pX.trans kq)).c1 aE,EI (lj.ext (pX.trans kq)).c2 aE,EI (lr.ext (pX.trans kq)).c0 aE,EI (lr.ext (pX.trans kq)).c1 aE,EI (lr.ext (pX.trans kq)).c2 aE⟩)
    (first
      | (go_at_call 305
         refine(HT.out _ uR zP).mono ?_;rintro r wp ⟨Ap,cp,rfl,Nw,pX⟩)
      | (go_at_call 186
         refine(HO.out _ _ _ Nw).mono ?_;rintro r wo ⟨Ao,co,rfl,oK,kq⟩;have bz := bx3.ext (pX.trans kq);have z0 := bz.c0;have z1 := bz.c1;have z2 := bz.c2;have y0 := bz.fr 0;have y1 := bz.fr 1;have y2 := bz.fr 2))
  go_wp2;exact tg rfl rfl rfl (bz.set _ _ _ _ _) rfl (bz.tK oK _ _ _ _ _) (jL.sY (HE.out.trans (pX.trans kq)) aE _ _ _ _ _)
end Go.Proofs.YtkjkcjhacddojaaGreatDoor
namespace Go.Proofs.YtkjkcjhacddojaaGreatDoor.Fp
def ah8{d:Dy}{j k:Int}(h1:j<=k)(h2:k<=d.e):d.kr j=d.kr k*2^(k-j).toNat:=by
 unfold Dy.kr;rw[bL,<-bE];congr 2;omega
def J6{d:Dy}{j k:Int}(h1:j<=k)(h2:k<=d.e):d.num j=d.num k*((2^(k-j).toNat:Nat):Int):=by
 unfold Dy.num;rw[ah8 h1 h2];split
 .rw [ez,Int.neg_mul]
 .rw [ez]
def wB{d:Dy}(h:d.m=0)(k:Int):d.num k=0:=by
 unfold Dy.num;rw[V0 h];split<;>rfl
def wT(x y:Int):Int:=if x<y then -1 else if y<x then 1 else 0
def RE(x y:Int){p:Nat}(hp:0<p):wT (x*(p:Int)) (y*(p:Int))=wT x y:=by
 unfold wT;have h:(0:Int)<p:= aE ;have a:=@Int.mul_lt_mul_right (p:Int) x y h;have b:=@Int.mul_lt_mul_right (p:Int) y x h;simp only[a,b]
def oq(d:Dy)(k:Int):Prop:=d.m=0\/k<=d.e
def oq.num{d:Dy}{j k:Int}(h:oq d k)(hj:j<=k):d.num j=d.num k*((2^(k-j).toNat:Nat):Int):=by
 rcases h with h|h
 .rw [wB h,wB h,Int.zero_mul]
 .exact J6 hj h
def Dm{a b:Dy}{k:Int}(ha:oq a k)(hb:oq b k):jK a b=wT (a.num k) (b.num k):=by
 have e0:jK a b=wT (a.num (min a.e b.e)) (b.num (min a.e b.e)):=rfl;rw[e0];obtain⟨j,h1,h2⟩:∃ j:Int,j<=k/\j<=min a.e b.e:=⟨min k (min a.e b.e),aE,aE⟩
 have a1:=ha.num h1;have b1:=hb.num h1;have a2:=(show oq a (min a.e b.e)from .inr aE).num h2;have b2:=(show oq b (min a.e b.e)from .inr aE).num h2;rw[<-RE _ _ (p:=2^(min a.e b.e-j).toNat) (bF aG),<-a2,<-b2,a1,b1,RE _ _ (bF aG)]
def ah5{s:Bool}{m:Nat}{e k:Int}(h:k<=e):(canon s m e).kr k=m*2^(e-k).toNat:=by
 unfold canon;split
 .rename_i h0;subst h0;simp[Dy.kr]
 .rename_i h0;unfold Dy.kr;simp only;have e1:=Fm h0
  conv=>rhs;rw[<-e1]
  rw[bL,<-bE];congr 2;omega
def CH{s:Bool}{m:Nat}{e k:Int}(h:k<=e):(canon s m e).num k=if s then -((m*2^(e-k).toNat:Nat):Int)else((m*2^(e-k).toNat:Nat):Int):=by
 by_cases h0:m=0
 .subst h0;rw[wB (by simp[canon])];simp
 .have:(canon s m e).neg=s:=by unfold canon;rw[bu h0]
  unfold Dy.num;rw[ah5 h,this]
def WJ{m:Nat}{e k:Int}(h:k<=e):(canon false m e).num k=((m*2^(e-k).toNat:Nat):Int):=by
 rw[CH h];simp
def OC{z e k:Int}(h:k<=e):(pB z e).num k=z*((2^(e-k).toNat:Nat):Int):=by
 unfold pB;rw[CH h];by_cases hz:z<0
 .simp only[hz,gE,bQ];rw[ez,<-Int.neg_mul];congr 1;omega
 .simp only[hz,decide_false];rw[ez,show(z.natAbs:Int)=z by omega];simp
def AI{s:Bool}{m:Nat}{e k:Int}(h:k<=e):oq (canon s m e) k:=by
 unfold canon;split
 .exact .inl rfl
 .exact .inr (by simp only;omega)
def Li{z e k:Int}(h:k<=e):oq (pB z e) k:=AI h
def KG{a b:Dy}{k:Int}(ha:oq a k)(hb:oq b k):(jc a b).num k=a.num k+b.num k:=by
 unfold jc;by_cases h1:a.m=0
 .rw [bw h1,wB h1,Int.zero_add]
 .rw [bu h1];by_cases h2:b.m=0
  .rw [bw h2,wB h2,Int.add_zero]
  .rw [bu h2];have ea:k<=a.e:=by rcases ha with h|h;exact absurd h h1;exact h
   have eb:k<=b.e:=by rcases hb with h|h;exact absurd h h2;exact h
   have hm:k<=min a.e b.e:= aE ;rw[OC hm,Int.add_mul,<-J6 hm aE,<-J6 hm aE]
def HW{a b:Dy}{k:Int}(ha:oq a k)(hb:oq b k):oq (jc a b) k:=by
 unfold jc;by_cases h1:a.m=0
 .rw [bw h1];exact hb
 .rw [bu h1];by_cases h2:b.m=0
  .rw [bw h2];exact ha
  .rw [bu h2];have ea:k<=a.e:=by rcases ha with h|h;exact absurd h h1;exact h
   have eb:k<=b.e:=by rcases hb with h|h;exact absurd h h2;exact h
   exact Li aE 
def BW{a b:Dy}(ha:a.mF)(hb:b.mF):(jc a b).mF:=by
 unfold jc;split
 .exact hb
 .split
  .exact ha
  .exact ru _ _ _
def E5{d:Dy}{k:Int}(h:oq d k):oq (iU d) k:=h
def Gx{d:Dy}(k:Int):(iU d).num k = -(d.num k):=by
 by_cases h:d.m=0
 .rw [wB h,wB (by exact h)];rfl
 .exact WK d k h
def L8{a b:Dy}(ha:a.mF)(hb:b.mF){k:Int}(h1:oq a k)(h2:oq b k)(h:a.num k=b.num k):a=b:=by
 have zero:∀ {d:Dy},d.mF->d.m=0->d=jD:=by
  intro d hd h0;obtain⟨s,m,e⟩:=d;rcases hd with⟨x,y,z⟩|hd
  .simp only at x y z;subst x y z;rfl
  .simp only at hd h0;omega
 have nz:∀ {d:Dy},d.num k=0->d.m=0:=by
  intro d hd;by_cases h0:d.m=0
  .exact h0
  .exfalso;have:=xr h0 k;unfold Dy.num at hd;split at hd<;>omega
 by_cases za:a.m=0
 .have zb:b.m=0:=nz (by rw[<-h];exact wB za k);rw[zero ha za,zero hb zb]
 .have zb:b.m≠0:=λzb=>za (nz (by rw[h];exact wB zb k))
  have oa:a.m%2=1:=by rcases ha with⟨x,_,_⟩|x;exact absurd x za;exact x
  have ob:b.m%2=1:=by rcases hb with⟨x,_,_⟩|x;exact absurd x zb;exact x
  have ea:k<=a.e:=by rcases h1 with h|h;exact absurd h za;exact h
  have eb:k<=b.e:=by rcases h2 with h|h;exact absurd h zb;exact h
  have pa:=xr za k;have pb:=xr zb k;have hm:a.neg=b.neg/\a.kr k=b.kr k:=by
   unfold Dy.num at h;cases x:a.neg<;>cases y:b.neg<;>simp[x,y]at h<;>first|exact⟨rfl,aE⟩|(exfalso;omega)
  have hc:=congrArg jZ hm.2;unfold Dy.kr at hc;rw[y7 oa,y7 ob]at hc;have xi:=hm.2;unfold Dy.kr at xi;rw[hc]at xi;have sO:=aqz (bF aG) xi;obtain⟨s,m,e⟩:=a;obtain⟨t,n,f⟩:=b;simp only at *
  have:e=f:= aE ;rw[hm.1,sO,this]
end Go.Proofs.YtkjkcjhacddojaaGreatDoor.Fp
namespace Go.Proofs.YtkjkcjhacddojaaGreatDoor
open Go.RowKit Fp
def YM(A:Option Addr)(c:Nat)(M:List Nat)(n:Int)(w:World)(kV:Sl w A c M)(hlen:M.length<=256)(h0:0<=n)(hn:n<=65536)(oQ:(ia (val M*2^n.toNat)).length<=256):
 Calls prog 266 #[.slice A M.length c,.int .i64 n] w (tN w (ia (val M*2^n.toNat))):=by
 obtain⟨k,rfl⟩:=ek h0;exact amz A c M k w kV hlen aE oQ
set_option maxHeartbeats 8000000 in
def adK(s : Bool)(A : Option Addr)(c : Nat)(L : List Nat)(e : Int)(t : Bool)(B : Option Addr)(d : Nat)(M : List Nat)(f : Int)(w : World)
    (hs : Sl w A c L) (hr : Sl w B d M) (da : pr s L e) (db : pr t M f) (vR : val L≠0) (tp : val M≠0):
    Calls prog 199 #[.agg #[.bool s,.slice A L.length c,.int .i64 e],.agg #[.bool t,.slice B M.length d,.int .i64 f]] w λr w' => r = .returned (.int .i64 (s9 ⟨s,val L,e⟩ ⟨t,val M,f⟩))/\iJ w w' := by
  obtain⟨lv,kQ⟩ := da.exp;obtain⟨M8,hf2⟩ := db.exp;have hl := da.len;have hm := db.len;have hE : iJ w ((w.alloc (.cells #[.bool s,.slice A L.length c,.int .i64 e] 39)).alloc (.cells #[.bool t,.slice B M.length d,.int .i64 f] 39)) := (iJ.alloc _ _).trans (iJ.alloc _ _);have lj := ((jL.new w s A L.length c e).alloc (.cells #[.bool t,.slice B M.length d,.int .i64 f] 39)).drew;have lr := (jL.sW (W := w.alloc (.cells #[.bool s,.slice A L.length c,.int .i64 e] 39)) (g := w.heap.size+1) aK t B M.length d f).drew;have uR := (hs.below hE).drew;have zP := (hr.below hE).drew;have HE := aqG (hE.trans (iJ.drew _));clear hE;have HTa := aqG (λw (h : Sl w A c L) => L7 s A c L e w h da);have HTb := aqG (λw (h : Sl w B d M) => L7 t B d M f w h db);have Hlt := aqG (λh => RG (a := ⟨s,val L,e⟩) (b := ⟨t,val M,f⟩) vR tp h);have Hgt := aqG (λh => RF (a := ⟨s,val L,e⟩) (b := ⟨t,val M,f⟩) vR tp h);have Hta := aqG (show Dy.iE ⟨s,val L,e⟩=iq (val L)+e by unfold Dy.iE;rw[bu vR]);have Htb := aqG (show Dy.iE ⟨t,val M,f⟩=iq (val M)+f by unfold Dy.iE;rw[bu tp]);obtain⟨k,hk⟩ : ∃ k,min e f=k := ⟨_,rfl⟩
  have hke : k<=e := aE ;have hkf : k<=f := aE ;have mO : -17000<=k := aE ;have Ni := aqG (aE:k=e\/k=f);have US : IntKind.i64.wrap (e-k)=e-k := i64_in _ aE aE;have hwf : IntKind.i64.wrap (f-k)=f-k := i64_in _ aE aE;have HM := aqG (show s9 ⟨s,val L,e⟩ ⟨t,val M,f⟩=kE (val L*2^(e-k).toNat) (val M*2^(f-k).toNat)by unfold s9;simp only[hk];rfl);have Hfa := aqG (show iq (val L)+e=iq (val M)+f->iq (val L*2^(e-k).toNat)<=4096 from λh => by
    rw[re vR];have := da.bits;have := db.bits;have := Ni.out;omega)
  have Hfb := aqG (show iq (val L)+e=iq (val M)+f->iq (val M*2^(f-k).toNat)<=4096 from λh => by
    rw[re tp];have := da.bits;have := db.bits;have := Ni.out;omega)
  have HXa := aqG (λw (h : Sl w A c L) oQ => YM A c L (e-k) w h hl aE aE oQ);have HXb := aqG (λw (h : Sl w B d M) oQ => YM B d M (f-k) w h hm aE aE oQ);generalize Dy.iE ⟨s,val L,e⟩=ta at *
  generalize Dy.iE ⟨t,val M,f⟩=tb at *
  generalize s9 ⟨s,val L,e⟩ ⟨t,val M,f⟩=R at *
  generalize val L*2^(e-k).toNat=x at *
  generalize val M*2^(f-k).toNat=y at *
  have HC := aqG (λA B c d w (h : Sl w A c (ia x)) (k : Sl w B d (ia y)) hx hy => JX A B c d (ia x) (ia y) w h k hx hy);rw[kf,kf]at HC;clear vR tp da db hl hm;go_enter func199,ntmps199;go_wp2_with fail;go_region_held3 (λw' => w'.cell? ⟨w.heap.size,0,none⟩=some (.bool s)/\w'.cell? ⟨w.heap.size,1,none⟩=some (.slice A L.length c)/\w'.cell? ⟨w.heap.size,2,none⟩=some (.int .i64 e)/\w'.cell? ⟨w.heap.size+1,0,none⟩=some (.bool t)/\w'.cell? ⟨w.heap.size+1,1,none⟩=some (.slice B M.length d)/\w'.cell? ⟨w.heap.size+1,2,none⟩=some (.int .i64 f))
    (first
      |exact⟨lj.c0,lj.c1,lj.c2,lr.c0,lr.c1,lr.c2⟩
      |exact⟨(lj.ext iV).c0,(lj.ext iV).c1,(lj.ext iV).c2,(lr.ext iV).c0,(lr.ext iV).c1,(lr.ext iV).c2⟩
      |exact⟨(lj.ext jQ).c0,(lj.ext jQ).c1,(lj.ext jQ).c2,(lr.ext jQ).c0,(lr.ext jQ).c1,(lr.ext jQ).c2⟩
      |exact⟨(lj.ext (iV.trans jQ)).c0,(lj.ext (iV.trans jQ)).c1,(lj.ext (iV.trans jQ)).c2,(lr.ext (iV.trans jQ)).c0,(lr.ext (iV.trans jQ)).c1,(lr.ext (iV.trans jQ)).c2⟩
      |exact⟨(lj.ext (jQ.trans iV)).c0,(lj.ext (jQ.trans iV)).c1,(lj.ext (jQ.trans iV)).c2,(lr.ext (jQ.trans iV)).c0,(lr.ext (jQ.trans iV)).c1,(lr.ext (jQ.trans iV)).c2⟩
      |exact⟨(lj.ext ((iV.trans jQ).trans pF)).c0,(lj.ext ((iV.trans jQ).trans pF)).c1,(lj.ext ((iV.trans jQ).trans pF)).c2,(lr.ext ((iV.trans jQ).trans pF)).c0,(lr.ext ((iV.trans jQ).trans pF)).c1,(lr.ext ((iV.trans jQ).trans pF)).c2⟩
      |exact⟨(lj.ext ((jQ.trans iV).trans pF)).c0,(lj.ext ((jQ.trans iV).trans pF)).c1,(lj.ext ((jQ.trans iV).trans pF)).c2,(lr.ext ((jQ.trans iV).trans pF)).c0,(lr.ext ((jQ.trans iV).trans pF)).c1,(lr.ext ((jQ.trans iV).trans pF)).c2⟩)
    (first
      | (go_at_call_of 216 (Value.agg #[.bool s,.slice A L.length c,.int .i64 e])
         refine(HTa.out _ ?_).mono ?_
         (first|exact uR|exact uR.below jQ)
         rintro r wx ⟨rfl,iV⟩)
      | (go_at_call_of 216 (Value.agg #[.bool t,.slice B M.length d,.int .i64 f])
         refine(HTb.out _ ?_).mono ?_
         (first|exact zP|exact zP.below iV)
         rintro r wy ⟨rfl,jQ⟩))
  first
    | (have qI := iV.trans jQ)
    | (have qI := jQ.trans iV)
  have cx1 := (lj.ext qI).drew;have cx2 := (lr.ext qI).drew;have kV := (uR.below qI).drew;have oA := (zP.below qI).drew;have cx1n := (lj.ext qI)
  have cx2n := (lr.ext qI)
  have HF := aqG ((HE.out.trans qI).trans (iJ.drew _));have HFr := aqG (HE.out.trans qI);clear iV jQ qI;by_cases h1 : ta<tb
  . have hR := aqG (Hlt.out h1)
    go_wp2;go_ret;exact⟨oX hR.out.symm,HFr.out⟩
  . by_cases h2 : tb<ta
    . have hR := aqG (Hgt.out h2)
      go_wp2;go_ret;exact⟨oX hR.out.symm,HFr.out⟩
    . have qi : (iq (val L) : Int)+e=iq (val M)+f := by rw[<-Hta.out,<-Htb.out];omega
      have hfa := N8 (k := 128) (Hfa.out qi);have hfb := N8 (k := 128) (Hfb.out qi);have HXa2 := aqG (λw h => HXa.out w h aE);have HXb2 := aqG (λw h => HXb.out w h aE);have HC2 := aqG (λA B c d w h k => HC.out A B c d w h k aE aE);have b0 := cx1n.c0;have b1 := cx1n.c1;have b2 := cx1n.c2;have d0 := cx2n.c0;have d1 := cx2n.c1;have d2 := cx2n.c2;clear qi hfa hfb;go_wp2_with fail;go_region_held3 (λw' => w'.cell? ⟨w.heap.size,0,none⟩=some (.bool s)/\w'.cell? ⟨w.heap.size,1,none⟩=some (.slice A L.length c)/\w'.cell? ⟨w.heap.size,2,none⟩=some (.int .i64 e)/\w'.cell? ⟨w.heap.size+1,0,none⟩=some (.bool t)/\w'.cell? ⟨w.heap.size+1,1,none⟩=some (.slice B M.length d)/\w'.cell? ⟨w.heap.size+1,2,none⟩=some (.int .i64 f))
        (first
          |exact⟨cx1.c0,cx1.c1,cx1.c2,cx2.c0,cx2.c1,cx2.c2⟩
          |exact⟨(cx1.ext iV).c0,(cx1.ext iV).c1,(cx1.ext iV).c2,(cx2.ext iV).c0,(cx2.ext iV).c1,(cx2.ext iV).c2⟩
          |exact⟨(cx1.ext jQ).c0,(cx1.ext jQ).c1,(cx1.ext jQ).c2,(cx2.ext jQ).c0,(cx2.ext jQ).c1,(cx2.ext jQ).c2⟩
          |exact⟨(cx1.ext (iV.trans jQ)).c0,(cx1.ext (iV.trans jQ)).c1,(cx1.ext (iV.trans jQ)).c2,(cx2.ext (iV.trans jQ)).c0,(cx2.ext (iV.trans jQ)).c1,(cx2.ext (iV.trans jQ)).c2⟩
          |exact⟨(cx1.ext (jQ.trans iV)).c0,(cx1.ext (jQ.trans iV)).c1,(cx1.ext (jQ.trans iV)).c2,(cx2.ext (jQ.trans iV)).c0,(cx2.ext (jQ.trans iV)).c1,(cx2.ext (jQ.trans iV)).c2⟩
          |exact⟨(cx1.ext ((iV.trans jQ).trans pF)).c0,(cx1.ext ((iV.trans jQ).trans pF)).c1,(cx1.ext ((iV.trans jQ).trans pF)).c2,(cx2.ext ((iV.trans jQ).trans pF)).c0,(cx2.ext ((iV.trans jQ).trans pF)).c1,(cx2.ext ((iV.trans jQ).trans pF)).c2⟩
          |exact⟨(cx1.ext ((jQ.trans iV).trans pF)).c0,(cx1.ext ((jQ.trans iV).trans pF)).c1,(cx1.ext ((jQ.trans iV).trans pF)).c2,(cx2.ext ((jQ.trans iV).trans pF)).c0,(cx2.ext ((jQ.trans iV).trans pF)).c1,(cx2.ext ((jQ.trans iV).trans pF)).c2⟩)
        (first
          | (go_at_call_of 266 (Value.slice A L.length c)
             refine(HXa2.out _ ?_).mono ?_
             (first|exact kV|exact kV.below jQ)
             rintro r wx ⟨Ax,cx,rfl,ri,iV⟩)
          | (go_at_call_of 266 (Value.slice B M.length d)
             refine(HXb2.out _ ?_).mono ?_
             (first|exact oA|exact oA.below iV)
             rintro r wy ⟨Ay,cy,rfl,UJ,jQ⟩)
          | (go_at_call 220
             refine(HC2.out _ _ _ _ _ ?_ ?_).mono ?_
             (first|exact ri.below jQ|exact ri)
             (first|exact UJ|exact UJ.below iV)
             rintro r wz ⟨rfl,pF⟩))
      all_goals
        go_wp2;go_ret
        (first|exact⟨oX HM.out.symm,HF.out.trans ((iV.trans jQ).trans pF)⟩|exact⟨oX HM.out.symm,HF.out.trans ((jQ.trans iV).trans pF)⟩)
def YU{d:Dy}:d.jb=0↔d.m=0:=by
 rcases C6 d with⟨h1,h2⟩|⟨h1,_,h2⟩|⟨h1,_,h2⟩<;>simp[h1,h2]
def adI(s : Bool)(A : Option Addr)(c : Nat)(L : List Nat)(e : Int)(t : Bool)(B : Option Addr)(d : Nat)(M : List Nat)(f : Int)(w : World)
    (hs : Sl w A c L) (hr : Sl w B d M) (da : pr s L e) (db : pr t M f):
    Calls prog 122 #[.agg #[.bool s,.slice A L.length c,.int .i64 e],.agg #[.bool t,.slice B M.length d,.int .i64 f]] w λr w' => r = .returned (.int .i64 (jK ⟨s,val L,e⟩ ⟨t,val M,f⟩))/\iJ w w' := by
  obtain⟨lv,kQ⟩ := da.exp;obtain⟨M8,hf2⟩ := db.exp;have HVa := aqG (λw (h : Sl w A c L) => B0 s A c L e w true h aE aE (by simp[da]));have HVb := aqG (λw (h : Sl w B d M) => B0 t B d M f w true h aE aE (by simp[db]));have HSa := aqG (λw (h : Sl w A c L) => L5 s A c L e w h da);have HSb := aqG (λw (h : Sl w B d M) => L5 t B d M f w h db);have HK := aqG (λh1 h2 w (h : Sl w A c L) (k : Sl w B d M) => adK s A c L e t B d M f w h k da db h1 h2);have HP := aqG (Dp ⟨s,val L,e⟩ ⟨t,val M,f⟩);have z1 : Hid (Dy.jb ⟨s,val L,e⟩=0↔val L=0) := YU;have z2 : Hid (Dy.jb ⟨t,val M,f⟩=0↔val M=0) := YU;have Js : Dy.jb ⟨s,val L,e⟩=0\/Dy.jb ⟨s,val L,e⟩ = -1\/Dy.jb ⟨s,val L,e⟩=1 := by
    rcases C6 ⟨s,val L,e⟩with⟨_,h⟩|⟨_,_,h⟩|⟨_,_,h⟩<;>simp[h]
  have oI : s9 ⟨s,val L,e⟩ ⟨t,val M,f⟩ = -1\/s9 ⟨s,val L,e⟩ ⟨t,val M,f⟩=0\/s9 ⟨s,val L,e⟩ ⟨t,val M,f⟩=1 := by
    unfold s9 kE;split;simp;split<;>simp
  generalize Dy.jb ⟨s,val L,e⟩=sa at *
  generalize Dy.jb ⟨t,val M,f⟩=sb at *
  generalize s9 ⟨s,val L,e⟩ ⟨t,val M,f⟩=cm at *
  generalize jK ⟨s,val L,e⟩ ⟨t,val M,f⟩=R at *
  have zT : IntKind.i64.wrap (sa*cm)=sa*cm := i64_in _ (by rcases Js with rfl|rfl|rfl<;>omega) (by rcases Js with rfl|rfl|rfl<;>omega);have HH := aqG Js;clear Js oI da db;go_enter func122,ntmps122;go_wp2_with fail;refine(HVa.out _ ((hs.alloc _).alloc _)).mono ?_;rintro r w1 ⟨rfl,kP⟩;have lj := ((jL.new w s A L.length c e).alloc (.cells #[.bool t,.slice B M.length d,.int .i64 f] 39)).ext kP;have lr := (jL.sW (W := w.alloc (.cells #[.bool s,.slice A L.length c,.int .i64 e] 39)) (g := w.heap.size+1) aK t B M.length d f).ext kP;have b0 := lj.c0;have b1 := lj.c1;have b2 := lj.c2;have d0 := lr.c0;have d1 := lr.c1;have d2 := lr.c2;have hE := (((iJ.alloc w (.cells #[.bool s,.slice A L.length c,.int .i64 e] 39)).trans (iJ.alloc _ (.cells #[.bool t,.slice B M.length d,.int .i64 f] 39))).trans kP)
  go_wp2_with fail;refine(HVb.out _ (hr.below hE)).mono ?_;rintro r w2 ⟨rfl,mK⟩;have I2 := hE.trans mK;have lj := (lj.ext mK).drew;have lr := (lr.ext mK).drew;have uR := (hs.below I2).drew;have zP := (hr.below I2).drew;have HE := aqG (I2.trans (iJ.drew _));clear hE I2 kP mK b0 b1 b2 d0 d1 d2;go_wp2_with fail;go_region_held3 (λw' => w'.cell? ⟨w.heap.size,0,none⟩=some (.bool s)/\w'.cell? ⟨w.heap.size,1,none⟩=some (.slice A L.length c)/\w'.cell? ⟨w.heap.size,2,none⟩=some (.int .i64 e)/\w'.cell? ⟨w.heap.size+1,0,none⟩=some (.bool t)/\w'.cell? ⟨w.heap.size+1,1,none⟩=some (.slice B M.length d)/\w'.cell? ⟨w.heap.size+1,2,none⟩=some (.int .i64 f))
    (first
      |exact⟨lj.c0,lj.c1,lj.c2,lr.c0,lr.c1,lr.c2⟩
      |exact⟨(lj.ext iV).c0,(lj.ext iV).c1,(lj.ext iV).c2,(lr.ext iV).c0,(lr.ext iV).c1,(lr.ext iV).c2⟩
      |exact⟨(lj.ext jQ).c0,(lj.ext jQ).c1,(lj.ext jQ).c2,(lr.ext jQ).c0,(lr.ext jQ).c1,(lr.ext jQ).c2⟩
      |exact⟨(lj.ext (iV.trans jQ)).c0,(lj.ext (iV.trans jQ)).c1,(lj.ext (iV.trans jQ)).c2,(lr.ext (iV.trans jQ)).c0,(lr.ext (iV.trans jQ)).c1,(lr.ext (iV.trans jQ)).c2⟩
      |exact⟨(lj.ext (jQ.trans iV)).c0,(lj.ext (jQ.trans iV)).c1,(lj.ext (jQ.trans iV)).c2,(lr.ext (jQ.trans iV)).c0,(lr.ext (jQ.trans iV)).c1,(lr.ext (jQ.trans iV)).c2⟩)
    (first
      | (go_at_call_of 46 (Value.agg #[.bool s,.slice A L.length c,.int .i64 e])
         refine(HSa.out _ ?_).mono ?_
         (first|exact uR|exact uR.below jQ)
         rintro r wx ⟨rfl,iV⟩)
      | (go_at_call_of 46 (Value.agg #[.bool t,.slice B M.length d,.int .i64 f])
         refine(HSb.out _ ?_).mono ?_
         (first|exact zP|exact zP.below iV)
         rintro r wy ⟨rfl,jQ⟩))
  first
    | (have qI := iV.trans jQ)
    | (have qI := jQ.trans iV)
  have cx1 := (lj.ext qI)
  have cx2 := (lr.ext qI)
  have kV := (uR.below qI)
  have oA := (zP.below qI)
  have HFr := aqG (HE.out.trans qI);clear iV jQ qI;by_cases h1 : sa<sb
  . have hR := aqG (show R = -1 by rw[HP.out,bw h1])
    go_wp2;go_ret;exact⟨oX hR.out.symm,HFr.out⟩
  . by_cases h2 : sb<sa
    . have hR := aqG (show R=1 by rw[HP.out,bu h1,bw h2])
      go_wp2;go_ret;exact⟨oX hR.out.symm,HFr.out⟩
    . by_cases h3 : sa=0
      . have hR := aqG (show R=0 by rw[HP.out,bu h1,bu h2,bw h3])
        have hz : (sa==0)=true := by simp[h3]
        go_wp2;go_ret;exact⟨oX hR.out.symm,HFr.out⟩
      . have hR := aqG (show R=sa*cm by rw[HP.out,bu h1,bu h2,bu h3])
        have hz : (sa==0)=false := bj h3;have HK2 := aqG (HK.out (λh => h3 (z1.out.2 h)) (λh => h3 (by have := z2.out.2 h;omega)));have b0 := cx1.c0;have b1 := cx1.c1;have b2 := cx1.c2;have d0 := cx2.c0;have d1 := cx2.c1;have d2 := cx2.c2;go_wp2_with fail;refine(HK2.out _ kV oA).mono ?_;rintro r w3 ⟨rfl,pW⟩;go_wp2;go_ret;exact⟨oX hR.out.symm,HFr.out.trans pW⟩
def VI:ia 1=[1]:=by rw[Ab aG];simp[nT]
def Ro{L:List Nat}(h:iK L)(hl:L.length<=256)(s:Bool)(e:Int):(ia (canon s (val L) e).m).length<=100000000:=by
 unfold canon;split
 .simp [nT]
 .refine bG (rE (k:=256) (cB (bV _ _) ?_)) aG ;exact bW (mJ h) (bN aG hl)
def Rm{L:List Nat}(h:iK L)(hl:L.length<=256)(s:Bool)(e:Int)(h1:-9000000<=e)(h2:e<=9000000):-10000000<=(canon s (val L) e).e/\(canon s (val L) e).e<=10000000:=by
 unfold canon;split
 .simp
 .rename_i h0;have:=Fe h h0;simp only;omega
def aln(s:Bool)(A:Option Addr)(c:Nat)(L:List Nat)(e k:Int)(w:World)(hs:Sl w A c L)(hd:pr s L e)(mO:-32768<=k)(tZ:k<=32768)(hr:oB (canon s (val L) (e+k))):
 Calls prog 111 #[.agg #[.bool s,.slice A L.length c,.int .i64 e],.int .i64 k] w (yY w (canon s (val L) (e+k)) 0):=by
 obtain⟨lv,kQ⟩:=hd.exp;have hlen:=hd.len;have HV:=aqG (λw (h:Sl w A c L)=>Ko s A c L e w true h aE aE (by simp[hd]));have HX:=aqG (λw=>ak9 k w true (by simp[mO,tZ]));have hw:IntKind.i64.wrap (e+k)=e+k:=i64_in _ aE aE;have HC:=aqG (λw (h:Sl w A c L)=>GX s A c L (e+k) w h aE aE aE);have kP:=Ro hs.ok hlen s (e+k);obtain⟨mK,pW⟩:=Rm hs.ok hlen s (e+k) aE aE;have hv:(canon s (val L) (e+k)).ik:=⟨ru _ _ _,hr⟩
 have HK:=aqG (λA c w (h:Sl w A c (ia (canon s (val L) (e+k)).m))=>ak7 _ A c w h kP mK pW hv);generalize canon s (val L) (e+k)=D at *
 clear hd hr hv kP mK pW;go_enter func111,ntmps111;go_wp2_with fail;refine(HV.out _ ((hs.alloc _).alloc _)).mono ?_;rintro r w1 ⟨rfl,kP⟩;have lj:=((jL.new w s A L.length c e).alloc (.cells #[.bool false,.slice none 0 0,.int .i64 0] 39)).ext kP;have lr:=(jL.sW (W:=w.alloc (.cells #[.bool s,.slice A L.length c,.int .i64 e] 39)) (g:=w.heap.size+1) aK false none 0 0 0).ext kP;have b0:=lj.c0;have b1:=lj.c1;have b2:=lj.c2;have hE:=(((iJ.alloc w (.cells #[.bool s,.slice A L.length c,.int .i64 e] 39)).trans (iJ.alloc _ (.cells #[.bool false,.slice none 0 0,.int .i64 0] 39))).trans kP)
 have uR:=hs.below hE;have HE:=aqG hE;clear hE kP;go_wp2_with fail;refine(HX.out _).mono ?_;rintro r w2 ⟨rfl,rfl⟩;go_wp2_with fail;refine(HC.out _ uR).mono ?_;rintro r w2 ⟨A1,c1,rfl,tA,mK⟩;go_wp2_with fail;refine(HK.out _ _ _ tA).mono ?_;rintro r w3 ⟨A2,c2,rfl,kV,pW⟩;have bz:=lr.ext (mK.trans pW);have z0:=bz.c0;have z1:=bz.c1;have z2:=bz.c2;have f0:=bz.fr 0;have f1:=bz.fr 1;have f2:=bz.fr 2;go_wp2;exact Dw rfl rfl rfl rfl (bz.set _ _ _ _ _) rfl (bz.tK kV _ _ _ _ _) (jL.sY (HE.out.trans (mK.trans pW)) aE _ _ _ _ _)
abbrev DV(d:Dy)(A:Option Addr)(c:Nat):Value:=.agg #[.bool d.neg,.slice A (ia d.m).length c,.int .i64 d.e]
def VF{n k:Nat}(h:iq n<=32*k):(ia n).length<=k:=by
 refine rE (bW (pK _) ?_);rw[oE];exact bN aG h
def Fp.Dy.ik.vI{d:Dy}(h:d.ik):pr d.neg (ia d.m) d.e:=by
 refine⟨wJ _,VF ?_,by rw[kf];exact h⟩;rcases h.range with h0|⟨h1,_⟩
 .rw [h0];exact cj _
 .omega
def Fp.Dy.ik.len{d:Dy}(h:d.ik):(ia d.m).length<=256:=h.vI.2.1
def Fp.Dy.ik.exp{d:Dy}(h:d.ik):-16384<=d.e/\d.e<=16384:=h.vI.exp
def Fp.Dy.ik.bits{d:Dy}(h:d.ik):iq d.m<=4096:=by have:=h.vI.bits;rwa[kf]at this
def jL.zg{w:World}{g n c:Nat}{s:Bool}{A:Option Addr}{e:Int}(h:jL w g s A n c e){g':Nat}(lL:g'≠g)(i:Nat)(v:Value):jL (w.setCell ⟨g',i,none⟩ v) g s A n c e:=by
 unfold jL at h ⊢;simp only[World.setCell,dw];rw[bu lL];exact h
def jL.Mr{w:World}{g n c:Nat}{s:Bool}{A:Option Addr}{e:Int}(h:jL w g s A n c e){g':Nat}(lL:g'≠g)(v0 v1 v2:Value):
 jL (((w.setCell ⟨g',0,none⟩ v0).setCell ⟨g',1,none⟩ v1).setCell ⟨g',2,none⟩ v2) g s A n c e:=((h.zg lL 0 v0).zg lL 1 v1).zg lL 2 v2
structure vt(d:Dy):Prop where
 len:(ia d.m).length<=256
 lo:-17000<=d.e
 hi:d.e<=17000
def Fp.Dy.ik.uk{d:Dy}(h:d.ik):vt d:=⟨h.len,by have:=h.exp;omega,by have:=h.exp;omega⟩
def ali(a b:Dy)(A B:Option Addr)(c d:Nat)(w:World)(h:Sl w A c (ia a.m))(k:Sl w B d (ia b.m))(ha:vt a)(hb:vt b):
 Calls prog 265 #[DV a A c,DV b B d] w (uz w (mV a b)):=by
 have:=alh a.neg A c (ia a.m) a.e b.neg B d (ia b.m) b.e w h k (by have:=ha.len;omega) (by have:=hb.len;omega) (by have:=ha.lo;omega) (by have:=ha.hi;omega) (by have:=hb.lo;omega) (by have:=hb.hi;omega);rw[kf,kf]at this;exact this
def adJ(a b:Dy)(A B:Option Addr)(c d:Nat)(w:World)(h:Sl w A c (ia a.m))(k:Sl w B d (ia b.m))(ha:a.ik)(hb:b.ik):
 Calls prog 122 #[DV a A c,DV b B d] w λe w'=>e = .returned (.int .i64 (jK a b))/\iJ w w':=by
 have:=adI a.neg A c (ia a.m) a.e b.neg B d (ia b.m) b.e w h k ha.vI hb.vI;rw[kf,kf]at this;exact this
def adG(a:Dy)(A:Option Addr)(c:Nat)(w:World)(h:Sl w A c (ia a.m))(ha:a.ik):
 Calls prog 306 #[DV a A c] w λe w'=>e = .returned (.int .i64 (iq a.m))/\iJ w w':=by
 have:=adF a.neg A c (ia a.m) a.e w h ha.vI;rw[kf]at this;exact this
def adO(a:Dy)(A:Option Addr)(c:Nat)(w:World)(h:Sl w A c (ia a.m))(ha:a.ik):
 Calls prog 46 #[DV a A c] w λe w'=>e = .returned (.int .i64 a.jb)/\iJ w w':=by
 have:=L5 a.neg A c (ia a.m) a.e w h ha.vI;rw[kf]at this;exact this
def Sx(a:Dy)(A:Option Addr)(c:Nat)(w:World)(h:Sl w A c (ia a.m))(ha:a.ik):
 Calls prog 92 #[DV a A c] w λe w'=>e = .returned (.bool true)/\iJ w w':=
 B0 a.neg A c (ia a.m) a.e w true h (by have:=ha.exp;omega) (by have:=ha.exp;omega) (by simp[ha.vI])
open Pu
def Qu:∀ w w',Tb w->Below w.heap.size w w'->Tb w':=λ_ _ h hb=>h.below hb
def mixed:prog.follows .mixedOrders=true:= aI 
abbrev gZ(f:FuncId)(args:List E)(ko:E):Prop:=PC prog Tb f args ko
def ic(L:List Nat):E:=.sl false L.length 1 λi _=>.v (.int .u32 (L.getD i 0:Int))
def ie(d:Dy):E:=.agg [.v (.bool d.neg),ic (ia d.m),.v (.int .i64 d.e)]
abbrev iP(z:Int):E:=.v (.int .i64 z)
abbrev bP(b:Bool):E:=.v (.bool b)
abbrev ar:List E:=[bP false,.v (.slice none 0 0),iP 0]
abbrev au:List E:=[bP false,.v (.slice none 0 0),iP 0,bP false,.v (.slice none 0 0),iP 0,bP false]
def vd{bs br:Nat->Prop}{w:World}{L:List Nat}{v:Value}(hk:iK L)(h:iN bs br w (ic L) v):∃ A c,v = .slice A L.length c/\Sl w A c L:=by
 cases h with
 |sl _ _ _ _ A c f hc hm h0 hl hr cell kk=>
  refine⟨A,c,rfl,hc,hm,hk,h0,λi x hx=>?_⟩;obtain⟨hi,Bd⟩:=cH.1 hx;obtain⟨b,o,e1,_,iL,mf⟩:=cell i 0 hi aG;have hv:=iN.kW (kk i 0 hi aG);refine⟨b,o,e1,iL,?_⟩;rw[cz,bT,hv]at mf;rw[mf];simp[bD,hx]
def yO{B br:Nat->Prop}{w w':World}{A:Option Addr}{c:Nat}{L:List Nat}(hB:∀ b,B b->b<w.heap.size/\pt w b)(hb:iJ w w')(h:Sl w' A c L):iN B br w' (ic L) (.slice A L.length c):=by
 refine .sl false L.length 1 _ A c (λi _=>.int .u32 (L.getD i 0:Int)) h.cap h.qx h.xw (λi j _ _=>⟨rfl,λh=>by cases h⟩) (λi j _ _=>rfl) (λi j hi hj=>?_) (λi j _ _=>.v _)
 .obtain rfl:j=0:= aE ;obtain⟨b,o,e1,iL,mf⟩:=h.lR hi;have e2:L.getD i 0=L[i]:=by simp[bD,hi]
  refine⟨b,o,e1,λyg=>?_,iL,by rw[cz,bT,mf,e2]⟩;obtain⟨h1,h2⟩:=hB b yg;exact(h2.En (hb.block b h1)) _ _ mf
def II{bs br:Nat->Prop}{w:World}{d:Dy}{v:Value}(h:iN bs br w (ie d) v):∃ A c,v=DV d A c/\Sl w A c (ia d.m):=by
 obtain⟨vs,rfl,q⟩:=iN.Dg (show iN bs br w (.agg _) v from h);obtain⟨v1,vs,rfl,h1,q⟩:=q.mI;obtain⟨v2,vs,rfl,h2,q⟩:=q.mI;obtain⟨v3,vs,rfl,h3,q⟩:=q.mI;obtain rfl:=q.qm;obtain rfl:=iN.kW h1;obtain rfl:=iN.kW h3;obtain⟨A,c,rfl,hs⟩:=vd (kR _) h2;exact⟨A,c,rfl,hs⟩
def Sv{B br:Nat->Prop}{w w':World}{A:Option Addr}{c:Nat}{d:Dy}(hB:∀ b,B b->b<w.heap.size/\pt w b)(hb:iJ w w')(h:Sl w' A c (ia d.m)):iN B br w' (ie d) (DV d A c):=
 kD.agg (.cons (.v _) (.cons (yO hB hb h) (.cons (.v _) (.nil _ _ _))))
section
variable {f:FuncId} {a b:Dy}
def yI(hc:∀ (vs:Array Value) (w:World),(callFunc f vs).run prog w = .ok (.enter f vs) w){ko:E}{R:World->Ending->World->Prop}
 (H:∀ A c w,Sl w A c (ia a.m)->Tb w->Calls prog f #[DV a A c] w (R w)) (hR:∀ (B:Nat->Prop) w e w',(∀ b,B b->b<w.heap.size/\pt w b)->R w e w'->∃ v,e = .returned v/\Below w.heap.size w w'/\iN B (λ_=>True) w' ko v):gZ f [ie a] ko:=by
 refine⟨hc,λw B vs hK hB hr=>?_⟩;obtain⟨v1,vs,rfl,h1,hr⟩:=hr.mI;obtain rfl:=hr.qm;obtain⟨A,c,rfl,s1⟩:=II h1;exact(H A c w s1 hK).mono λe w' h=>hR B w e w' hB h
def WZ(hc:∀ (vs:Array Value) (w:World),(callFunc f vs).run prog w = .ok (.enter f vs) w){ko:E}{R:World->Ending->World->Prop}
 (H:∀ A c A' c' w,Sl w A c (ia a.m)->Sl w A' c' (ia b.m)->Tb w->Calls prog f #[DV a A c,DV b A' c'] w (R w)) (hR:∀ (B:Nat->Prop) w e w',(∀ b,B b->b<w.heap.size/\pt w b)->R w e w'->∃ v,e = .returned v/\Below w.heap.size w w'/\iN B (λ_=>True) w' ko v):gZ f [ie a,ie b] ko:=by
 refine⟨hc,λw B vs hK hB hr=>?_⟩;obtain⟨v1,vs,rfl,h1,hr⟩:=hr.mI;obtain⟨v2,vs,rfl,h2,hr⟩:=hr.mI;obtain rfl:=hr.qm;obtain⟨A,c,rfl,s1⟩:=II h1;obtain⟨A',c',rfl,s2⟩:=II h2;exact(H A c A' c' w s1 s2 hK).mono λe w' h=>hR B w e w' hB h
end
def rv{x:Value}:∀ (B:Nat->Prop) (w:World) (e:Ending) (w':World),(∀ b,B b->b<w.heap.size/\pt w b)->(e = .returned x/\iJ w w')->∃ v,e = .returned v/\Below w.heap.size w w'/\iN B (λ_=>True) w' (.v x) v:=
 λ_ _ _ _ _ h=>⟨x,h.1,h.2,.v x⟩
def rd{d:Dy}:∀ (B:Nat->Prop) (w:World) (e:Ending) (w':World),(∀ b,B b->b<w.heap.size/\pt w b)->uz w d e w'->∃ v,e = .returned v/\Below w.heap.size w w'/\iN B (λ_=>True) w' (ie d) v:=
 λ_ _ _ _ hB ⟨_,_,h1,h2,h3⟩=>⟨_,h1,h3,Sv hB h3 h2⟩
def Pk{d:Dy}{n:Int}:∀ (B:Nat->Prop) (w:World) (e:Ending) (w':World),(∀ b,B b->b<w.heap.size/\pt w b)->yY w d n e w'->∃ v,e = .returned v/\Below w.heap.size w w'/\iN B (λ_=>True) w' (.iC [ie d,iP n]) v:=
 λ_ _ _ _ hB ⟨_,_,h1,h2,h3⟩=>⟨_,h1,h3,kD.iC (.cons (Sv hB h3 h2) (.cons (.v _) (.nil _ _ _)))⟩
def s7:E.le (.agg ar) (ie jD):=by
 have:ie jD = .agg [bP false,.sl false 0 1 λi _=>.v (.int .u32 (((ia 0).getD i 0:Nat):Int)),iP 0]:=by
  show E.agg [bP false,ic (ia 0),iP 0]=_;unfold ic;rw[nT];rfl
 rw[this];exact .agg (.cons (.refl _) (.cons (.nil _ _ _) (.cons (.refl _) .nil)))
def o0(a b:Dy)(ha:a.ik)(hb:b.ik):gZ 122 [ie a,ie b] (iP (jK a b)):=WZ call122 (λA c A' c' w h k _=>adJ a b A A' c c' w h k ha hb) rv
def pv(a:Dy)(ha:a.ik):gZ 46 [ie a] (iP a.jb):=yI call46 (λA c w h _=>adO a A c w h ha) rv
def tf(a:Dy)(ha:a.ik):gZ 92 [ie a] (bP true):=yI call92 (λA c w h _=>Sx a A c w h ha) rv
def IG(a:Dy)(ha:a.ik):gZ 306 [ie a] (iP (iq a.m)):=yI call306 (λA c w h _=>adG a A c w h ha) rv
def alj(a b:Dy)(ha:vt a)(hb:vt b):gZ 265 [ie a,ie b] (ie (mV a b)):=WZ call265 (λA c A' c' w h k _=>ali a b A A' c c' w h k ha hb) rd
def TT:List TI:=[
 ⟨3,.int .i64,⟨.int .i64, "int", 1,8,false,8,8,some (.int .i64 0),true,#[]⟩⟩,
 ⟨4,.bool,⟨.bool, "bool", 1,1,false,1,1,some (.bool false),true,#[]⟩⟩,
 ⟨9,.string,⟨.string, "string", 1,16,true,8,8,some (.string ⟨#[]⟩),true,#[]⟩⟩,
 ⟨22,.slice 74,⟨.slice 74, "[]api.Op", 1,24,true,8,8,some (.slice none 0 0),false,#[]⟩⟩,
 ⟨23,.slice 3,⟨.slice 3, "[]int", 1,24,true,8,8,some (.slice none 0 0),false,#[]⟩⟩,
 ⟨25,.struct #[⟨"Ins", 3,0,false, "", "", 0⟩,⟨"Ops", 22,1,false, "", "", 8⟩,⟨"Outs", 23,2,false, "", "", 32⟩],⟨.named "flowpipe/api.Tape" 24, "api.Tape", 3,56,true,8,8,some (.agg #[.int .i64 0,.slice none 0 0,.slice none 0 0]),false,#[]⟩⟩,
 ⟨26,.slice 46,⟨.slice 46, "[]api.Interval", 1,24,true,8,8,some (.slice none 0 0),false,#[]⟩⟩,
 ⟨28,.struct #[⟨"Tape", 25,0,false, "", "", 0⟩,⟨"States", 3,3,false, "", "", 56⟩,⟨"Params", 26,4,false, "", "", 64⟩],⟨.named "flowpipe/api.System" 27, "api.System", 5,88,true,8,8,some (.agg #[.int .i64 0,.slice none 0 0,.slice none 0 0,.int .i64 0,.slice none 0 0]),false,#[]⟩⟩,
 ⟨31,.func #[26] #[4] false,⟨.func #[26] #[4] false, "func([]api.Interval) bool", 1,8,true,8,8,some (.nilFunc),false,#[]⟩⟩,
 ⟨34,.int .i8,⟨.int .i8, "int8", 1,1,false,1,1,some (.int .i8 0),true,#[]⟩⟩,
 ⟨37,.slice 150,⟨.slice 150, "[]uint32", 1,24,true,8,8,some (.slice none 0 0),false,#[]⟩⟩,
 ⟨39,.struct #[⟨"Neg", 4,0,false, "", "", 0⟩,⟨"M", 37,1,false, "", "", 8⟩,⟨"E", 3,2,false, "", "", 32⟩],⟨.named "flowpipe/api.Dyadic" 38, "api.Dyadic", 3,40,true,8,8,some (.agg #[.bool false,.slice none 0 0,.int .i64 0]),false,#[]⟩⟩,
 ⟨43,.func #[26,26] #[4] false,⟨.func #[26,26] #[4] false, "func([]api.Interval, []api.Interval) bool", 1,8,true,8,8,some (.nilFunc),false,#[]⟩⟩,
 ⟨46,.struct #[⟨"Lo", 39,0,false, "", "", 0⟩,⟨"Hi", 39,3,false, "", "", 40⟩,⟨"All", 4,6,false, "", "", 80⟩],⟨.named "flowpipe/api.Interval" 45, "api.Interval", 7,88,true,8,8,some (.agg #[.bool false,.slice none 0 0,.int .i64 0,.bool false,.slice none 0 0,.int .i64 0,.bool false]),false,#[]⟩⟩,
 ⟨48,.slice 26,⟨.slice 26, "[][]api.Interval", 1,24,true,8,8,some (.slice none 0 0),false,#[]⟩⟩,
 ⟨49,.int .i64,⟨.named "flowpipe/api.Errno" 3, "api.Errno", 1,8,false,8,8,some (.int .i64 0),true,#[]⟩⟩,
 ⟨59,.func #[46,46] #[4] false,⟨.func #[46,46] #[4] false, "func(api.Interval, api.Interval) bool", 1,8,true,8,8,some (.nilFunc),false,#[]⟩⟩,
 ⟨64,.func #[46] #[4] false,⟨.func #[46] #[4] false, "func(api.Interval) bool", 1,8,true,8,8,some (.nilFunc),false,#[]⟩⟩,
 ⟨72,.struct #[⟨"N", 3,0,false, "", "", 0⟩,⟨"D", 3,1,false, "", "", 8⟩],⟨.named "flowpipe/api.Ratio" 71, "api.Ratio", 2,16,false,8,8,some (.agg #[.int .i64 0,.int .i64 0]),true,#[]⟩⟩,
 ⟨74,.struct #[⟨"Kind", 3,0,false, "", "", 0⟩,⟨"A", 3,1,false, "", "", 8⟩,⟨"B", 3,2,false, "", "", 16⟩,⟨"N", 3,3,false, "", "", 24⟩,⟨"C", 72,4,false, "", "", 32⟩],⟨.named "flowpipe/api.Op" 73, "api.Op", 6,48,false,8,8,some (.agg #[.int .i64 0,.int .i64 0,.int .i64 0,.int .i64 0,.int .i64 0,.int .i64 0]),true,#[]⟩⟩,
 ⟨78,.slice 80,⟨.slice 80, "[]api.Expr", 1,24,true,8,8,some (.slice none 0 0),false,#[]⟩⟩,
 ⟨80,.struct #[⟨"Kind", 3,0,false, "", "", 0⟩,⟨"Num", 72,1,false, "", "", 8⟩,⟨"Name", 9,3,false, "", "", 24⟩,⟨"N", 3,4,false, "", "", 40⟩,⟨"L", 78,5,false, "", "", 48⟩],⟨.named "flowpipe/api.Expr" 79, "api.Expr", 6,72,true,8,8,some (.agg #[.int .i64 0,.int .i64 0,.int .i64 0,.string ⟨#[]⟩,.int .i64 0,.slice none 0 0]),false,#[]⟩⟩,
 ⟨85,.slice 9,⟨.slice 9, "[]string", 1,24,true,8,8,some (.slice none 0 0),false,#[]⟩⟩,
 ⟨96,.func #[46,46,3] #[46] false,⟨.func #[46,46,3] #[46] false, "func(api.Interval, api.Interval, int) api.Interval", 1,8,true,8,8,some (.nilFunc),false,#[]⟩⟩,
 ⟨104,.func #[3] #[4] false,⟨.func #[3] #[4] false, "func(int) bool", 1,8,true,8,8,some (.nilFunc),false,#[]⟩⟩,
 ⟨131,.func #[3] #[46] false,⟨.func #[3] #[46] false, "func(int) api.Interval", 1,8,true,8,8,some (.nilFunc),false,#[]⟩⟩,
 ⟨150,.int .u32,⟨.int .u32, "uint32", 1,4,false,4,4,some (.int .u32 0),true,#[]⟩⟩,
 ⟨151,.int .u64,⟨.int .u64, "uint64", 1,8,false,8,8,some (.int .u64 0),true,#[]⟩⟩,
 ⟨160,.func #[39,3] #[39,49] false,⟨.func #[39,3] #[39,49] false, "func(api.Dyadic, int) (api.Dyadic, api.Errno)", 1,8,true,8,8,some (.nilFunc),false,#[]⟩⟩,
 ⟨166,.int .u64,⟨.int .u64, "uint", 1,8,false,8,8,some (.int .u64 0),true,#[]⟩⟩,
 ⟨168,.slice 170,⟨.slice 170, "[][2]api.Dyadic", 1,24,true,8,8,some (.slice none 0 0),false,#[]⟩⟩,
 ⟨170,.array 2 39,⟨.array 2 39, "[2]api.Dyadic", 6,80,true,8,8,some (.agg #[.bool false,.slice none 0 0,.int .i64 0,.bool false,.slice none 0 0,.int .i64 0]),false,#[]⟩⟩,
 ⟨173,.func #[3,3,46] #[46] false,⟨.func #[3,3,46] #[46] false, "func(int, int, api.Interval) api.Interval", 1,8,true,8,8,some (.nilFunc),false,#[]⟩⟩,
 ⟨200,.func #[39,39,3] #[39,49] false,⟨.named "flowpipe/interval.rounded" 142, "interval.rounded", 1,8,true,8,8,some (.nilFunc),false,#[]⟩⟩,
 ⟨201,.array 4 170,⟨.array 4 170, "[4][2]api.Dyadic", 24,320,true,8,8,some (.agg #[.bool false,.slice none 0 0,.int .i64 0,.bool false,.slice none 0 0,.int .i64 0,.bool false,.slice none 0 0,.int .i64 0,.bool false,.slice none 0 0,.int .i64 0,.bool false,.slice none 0 0,.int .i64 0,.bool false,.slice none 0 0,.int .i64 0,.bool false,.slice none 0 0,.int .i64 0,.bool false,.slice none 0 0,.int .i64 0]),false,#[]⟩⟩,
 ⟨210,.struct #[⟨"m", 37,0,false, "", "flowpipe/round", 0⟩,⟨"e", 3,1,false, "", "flowpipe/round", 24⟩,⟨"more", 4,2,false, "", "flowpipe/round", 32⟩],⟨.named "flowpipe/round.exact" 209, "round.exact", 3,40,true,8,8,some (.agg #[.slice none 0 0,.int .i64 0,.bool false]),false,#[]⟩⟩,
 ⟨216,.map 3 220,⟨.map 3 220, "map[int]func(gradient.node) api.Interval", 1,8,true,8,8,some (.map none),false,#[]⟩⟩,
 ⟨219,.struct #[⟨"o", 74,0,false, "", "flowpipe/gradient", 0⟩,⟨"v", 46,6,false, "", "flowpipe/gradient", 48⟩,⟨"a", 46,13,false, "", "flowpipe/gradient", 136⟩,⟨"b", 46,20,false, "", "flowpipe/gradient", 224⟩,⟨"da", 46,27,false, "", "flowpipe/gradient", 312⟩,⟨"db", 46,34,false, "", "flowpipe/gradient", 400⟩,⟨"p", 3,41,false, "", "flowpipe/gradient", 488⟩],⟨.named "flowpipe/gradient.node" 218, "gradient.node", 42,496,true,8,8,some (.agg #[.int .i64 0,.int .i64 0,.int .i64 0,.int .i64 0,.int .i64 0,.int .i64 0,.bool false,.slice none 0 0,.int .i64 0,.bool false,.slice none 0 0,.int .i64 0,.bool false,.bool false,.slice none 0 0,.int .i64 0,.bool false,.slice none 0 0,.int .i64 0,.bool false,.bool false,.slice none 0 0,.int .i64 0,.bool false,.slice none 0 0,.int .i64 0,.bool false,.bool false,.slice none 0 0,.int .i64 0,.bool false,.slice none 0 0,.int .i64 0,.bool false,.bool false,.slice none 0 0,.int .i64 0,.bool false,.slice none 0 0,.int .i64 0,.bool false,.int .i64 0]),false,#[]⟩⟩,
 ⟨220,.func #[219] #[46] false,⟨.func #[219] #[46] false, "func(gradient.node) api.Interval", 1,8,true,8,8,some (.nilFunc),false,#[]⟩⟩,
 ⟨227,.slice 37,⟨.slice 37, "[][]uint32", 1,24,true,8,8,some (.slice none 0 0),false,#[]⟩⟩,
 ⟨229,.func #[37] #[4] false,⟨.func #[37] #[4] false, "func([]uint32) bool", 1,8,true,8,8,some (.nilFunc),false,#[]⟩⟩,
 ⟨233,.slice 39,⟨.slice 39, "[]api.Dyadic", 1,24,true,8,8,some (.slice none 0 0),false,#[]⟩⟩,
 ⟨257,.struct #[⟨"p", 3,0,false, "", "flowpipe/exponent", 0⟩],⟨.named "flowpipe/exponent.work" 256, "exponent.work", 1,8,false,8,8,some (.agg #[.int .i64 0]),true,#[⟨"flowpipe/exponent.add", 198,#[],some (389,false)⟩,⟨"flowpipe/exponent.div", 198,#[],some (388,false)⟩,⟨"flowpipe/exponent.exp", 138,#[],some (401,false)⟩,⟨"flowpipe/exponent.halved", 224,#[],some (387,false)⟩,⟨"flowpipe/exponent.log", 138,#[],some (390,false)⟩,⟨"flowpipe/exponent.mul", 198,#[],some (391,false)⟩,⟨"flowpipe/exponent.small", 64,#[],some (403,false)⟩]⟩⟩,
 ⟨264,.struct #[⟨"neg", 4,0,false, "", "flowpipe/circle", 0⟩,⟨"m", 37,1,false, "", "flowpipe/circle", 8⟩],⟨.named "flowpipe/circle.fix" 263, "circle.fix", 2,32,true,8,8,some (.agg #[.bool false,.slice none 0 0]),false,#[⟨"flowpipe/circle.add", 275,#[],some (416,false)⟩,⟨"flowpipe/circle.by", 271,#[],some (419,false)⟩,⟨"flowpipe/circle.minus", 269,#[],some (407,false)⟩,⟨"flowpipe/circle.times", 272,#[],some (413,false)⟩,⟨"flowpipe/circle.zero", 29,#[],some (417,false)⟩]⟩⟩,
 ⟨275,.func #[264] #[264] false,⟨.func #[264] #[264] false, "func(circle.fix) circle.fix", 1,8,true,8,8,some (.nilFunc),false,#[]⟩⟩]
def BO:na prog TT:=Hz.ok ⟨⟨underlying3,aI⟩,⟨underlying4,aI⟩,⟨underlying9,aI⟩,⟨underlying22,aI⟩,⟨underlying23,aI⟩,⟨underlying25,aI⟩,⟨underlying26,aI⟩,⟨underlying28,aI⟩,⟨underlying31,aI⟩,⟨underlying34,aI⟩,⟨underlying37,aI⟩,⟨underlying39,aI⟩,⟨underlying43,aI⟩,⟨underlying46,aI⟩,⟨underlying48,aI⟩,⟨underlying49,aI⟩,⟨underlying59,aI⟩,⟨underlying64,aI⟩,⟨underlying72,aI⟩,⟨underlying74,aI⟩,⟨underlying78,aI⟩,⟨underlying80,aI⟩,⟨underlying85,aI⟩,⟨underlying96,aI⟩,⟨underlying104,aI⟩,⟨underlying131,aI⟩,⟨underlying150,aI⟩,⟨underlying151,aI⟩,⟨underlying160,aI⟩,⟨underlying166,aI⟩,⟨underlying168,aI⟩,⟨underlying170,aI⟩,⟨underlying173,aI⟩,⟨underlying200,aI⟩,⟨underlying201,aI⟩,⟨underlying210,aI⟩,⟨underlying216,aI⟩,⟨underlying219,aI⟩,⟨underlying220,aI⟩,⟨underlying227,aI⟩,⟨underlying229,aI⟩,⟨underlying233,aI⟩,⟨underlying257,aI⟩,⟨underlying264,aI⟩,⟨underlying275,aI⟩,trivial⟩
end Go.Proofs.YtkjkcjhacddojaaGreatDoor
namespace Go.Proofs.YtkjkcjhacddojaaGreatDoor.Pu
open Go.RowKit
def E.kH:E->Nat->Nat->E
 | .sl _ _ _ el,i,j=>el i j
 |_,_,_=>.any
section
variable {P:Program} {K:World->Prop}
def Sp.pre{c:Code}{σ τ:PS}{Q:Ex->PS->Prop}(h:PS.le σ τ)(k:Sp P K c τ Q):Sp P K c σ Q:=λw0 B a w L g r=>
 let⟨L',r'⟩:=h w0 B a w L (λb hb=>(g.hB b hb).1) r;k w0 B a w L' g r'
def Sp.post{c:Code}{σ:PS}{Q Q':Ex->PS->Prop}(h:Sp P K c σ Q)(k:∀ e τ,Q e τ->∃ τ',PS.le τ τ'/\Q' e τ'):Sp P K c σ Q':=λw0 B a w L g r=>
 Code.wp_mono (λ_ _ _ ⟨ex,τ,L',h1,h2,h3⟩=>let⟨τ',q1,q2⟩:=k ex τ h2;let⟨L2,r2⟩:=q1 w0 B _ _ L' (λb hb=>(g.hB b hb).1) h3;⟨ex,τ',L2,h1,q2,r2⟩) (h w0 B a w L g r)
def Sp.fam{α:Type}(f:α->PS)(p:α->Prop)(m:α->Nat){b:Code}{e:Ex}{τ:PS}
 (step:∀ x,p x->Sp P K b (f x) (λe' υ=>(e' = .normal/\∃ y,p y/\m y<m x/\υ=f y)\/(e' ≠ .normal/\e'=e/\υ=τ))) {σ:PS} (x:α) (hx:p x) (h0:PS.le σ (f x)):
 Sp P K (.loop b) σ (λe' υ=>e'=e/\υ=τ):=by
 refine Sp.pre h0 ?_;refine Sp.loop (Q:=λe' υ=>e'=e/\υ=τ) (λn σ=>∃ x,p x/\m x=n/\σ=f x) (λn σ ⟨x,h1,h2,h3⟩=>?_) (m x) (f x) ⟨x,hx,rfl,rfl⟩;subst h3 h2;exact(step x h1).mono λe' υ h=>h.imp (λ⟨q1,y,q2,q3,q4⟩=>⟨q1,m y,q3,y,q2,rfl,q4⟩) id
def Sp.ae3{α:Type}{f:α->PS}{p:α->Prop}{m:α->Nat}{b:Code}{e:Ex}{τ υ:PS}{x:α}(y:α)(h:Sp P K b (f x) (λe' υ'=>e' = .normal/\υ'=υ))(hy:p y)(hm:m y<m x)(hl:PS.le υ (f y)):
 Sp P K b (f x) (λe' υ=>(e' = .normal/\∃ y,p y/\m y<m x/\υ=f y)\/(e' ≠ .normal/\e'=e/\υ=τ)):=
 h.post λ_ _ ⟨h1,h2⟩=>⟨f y,h2▸hl,.inl ⟨h1,y,hy,hm,rfl⟩⟩
def Sp.ae4{α:Type}{f:α->PS}{p:α->Prop}{m:α->Nat}{b:Code}{e:Ex}{τ υ:PS}{x:α}(h:Sp P K b (f x) (λe' υ'=>e'=e/\υ'=υ))(he:e ≠ .normal)(hl:PS.le υ τ):
 Sp P K b (f x) (λe' υ=>(e' = .normal/\∃ y,p y/\m y<m x/\υ=f y)\/(e' ≠ .normal/\e'=e/\υ=τ)):=
 h.post λ_ _ ⟨h1,h2⟩=>⟨τ,h2▸hl,.inr ⟨h1▸he,h1,rfl⟩⟩
end
def Bn(k:Nat):Code->Option Code
 | .loop b=>if Nat.beq (Fy b) k then some b else Bn k b
 | .seq a b=>match Bn k a with
  |some c=>some c
  |none=>Bn k b
 | .cond _ a b=>match Bn k a with
  |some c=>some c
  |none=>Bn k b
 | .block _ b=>Bn k b
 | .scope b=>Bn k b
 |_=>none
def abH(k:Nat)(fn:Func):Code:=((fn.body.bind (Bn k)).getD .skip)
def Bx.le.iM{a b:Bx}(h:a=b):Bx.le a b:=h▸Bx.le.refl a
def Bx.le.cells{T:TypeId}{l m:List E}(hn:(l.all E.nL=true->m.all E.nL=true))(h:uy l m):Bx.le (.cells T l) (.cells T m):=⟨hn,λ_ _ _ _ _ ⟨b,vs,h1,h2,h3,h4,h5⟩=>⟨b,vs,h1,h2,h3,h.Kp h4,h5⟩⟩
def Bx.le.row{nl:Bool}{T:TypeId}{n n' sz:Nat}{el el':Nat->Nat->E}(hn:n=n')(h:∀ i j,i<n->j<sz->E.le (el i j) (el' i j)/\(el' i j).nr 2=true):Bx.le (.row nl T n sz el) (.row nl T n' sz el'):=
 ⟨id,λ_ _ _ _ _ ⟨f,h1,h2,h3⟩=>by subst hn;exact⟨f,h1,h2,λi j hi hj=>⟨(h i j hi hj).1 _ _ _ _ (h3 i j hi hj).1,(h i j hi hj).2⟩⟩⟩
def Bx.le.lq{nl:Bool}{T1 T0:TypeId}{n n' sz:Nat}{len len':Nat->Nat}{el el':Nat->Nat->Nat->E}{pend:Option Nat}(hn:n=n')(hl:∀ k,k<n->len k=len' k)
 (h:∀ k i j,k<n->i<len k->j<sz->E.le (el k i j) (el' k i j)/\(el' k i j).nr 2=true):Bx.le (.lq nl T1 T0 n sz len el pend) (.lq nl T1 T0 n' sz len' el' pend):=
 ⟨id,λ_ _ _ _ _ ⟨b,c,cur,f,h1,h2,h3,h4,h5,h6,h7,h8,h9,uH,vQ⟩=>by
  subst hn;refine⟨b,c,cur,f,h1,h2,h3,h4,h5,h6,h7,λk hk=>?_,h9,uH,vQ⟩;rw[<-hl k hk];exact⟨(h8 k hk).1,λi j hi hj=>⟨(h k i j hk hi hj).1 _ _ _ _ ((h8 k hk).2 i j hi hj).1,(h k i j hk hi hj).2⟩⟩⟩
def PS.le.ahn{σ τ:PS}(hn:σ.n=τ.n)(kx:(τ.b.all λx=>x.2.nl)=true)(hr:GY τ=true)(ht:xL σ τ.t)(hb:wL σ τ.b):PS.le σ τ:=λw0 B a w L _ r=>by
 let L':Lk:=⟨λid=>L.oW id/\(τ.bo id).isSome=true,λid x=>L.own id x/\(τ.bo id).isSome=true,L.val,L.jE⟩
 have iL:tM L w L' w:=⟨bC _,λx _ ⟨id,h,_⟩=>⟨id,h⟩,λ_ _ _=>rfl⟩
 refine⟨L',r.hd,by rw[<-hn];exact r.hs,λt=>?_,λid b h=>?_,λid=>?_,λid x h=>⟨r.hn id x h.1,h.2⟩,λid x h=>r.hw id x h.1,λid id' x h k=>r.hi id id' x h.1 k.1,r.he,λh id b k=>?_⟩
 .have hg:τ.get t=((look τ.t t)).getD (.e .any):=rfl;cases hl:look τ.t t with
  |none=>rw[hg,hl];exact .any _
  |some p=>
   rw[hg,hl];have:=ht.get hl _ _ _ _ _ (r.ht t);refine ot.move iL this λid hid vX=>⟨⟨vX,?_⟩,rfl,λ_=>rfl⟩
   have q:=cr.1 hr _ (Od hl);exact cr.1 q id hid
 .obtain ⟨b',h1,h2⟩:=hb.get h;have hs:(τ.bo id).isSome=true:=by rw[h];rfl
  exact(h2.2 _ _ _ _ _ (r.hb id b' h1)).later iL rfl (λx=>⟨λq=>q.1,λq=>⟨q,hs⟩⟩) (λ_=>rfl) λ_ _=>rfl
 .show L.oW id/\(τ.bo id).isSome=true↔(τ.bo id).isSome=true;refine⟨λh=>h.2,λh=>⟨(r.hv id).2 ?_,h⟩⟩;obtain⟨b,kq⟩:=gT.1 h;obtain⟨b',h1,_⟩:=hb.get kq;rw[h1];rfl
 .exact cr.1 kx _ (Od k)
def PV.xY(id:Nat)(e:E)(p:PV):PV:=match p with
 | .own i=>if Nat.beq i id then .e e else .own i
 |p=>if p.qY.any (Nat.beq id)then .e .any else p
def PS.xY(σ:PS)(id:Nat)(e:E):PS:={ σ with t:=σ.t.map λx=>(x.1,x.2.xY id e),b:=σ.b.filter λx=>!Nat.beq x.1 id }
def Bx.as:Bx->Option E
 | .row nl _ n sz el=>some (.sl nl n sz el)
 | .lq nl _ _ n sz len el none=>some (.sl true n 1 λk _=>.sl nl (len k) sz (el k))
 |_=>none
def PS.le.freeze{σ:PS}(id:Nat){b:Bx}{e:E}(kq:σ.bo id=some b)(he:b.as=some e):PS.le σ (σ.xY id e):=λw0 B a w L hB r=>by
 let L':Lk:=⟨λi=>L.oW i/\i≠id,λi x=>L.own i x/\i≠id,L.val,L.jE⟩
 have iL:tM L w L' w:=⟨bC _,λx _ ⟨i,h,_⟩=>⟨i,h⟩,λ_ _ _=>rfl⟩
 have w9:∀ i,(σ.xY id e).bo i=if i=id then none else σ.bo i:=by
  intro i;unfold PS.bo PS.xY;by_cases h:i=id
  .subst h;simp only[bQ];exact VN _ _
  .rw [bu h];exact Gh _ _ _ (λe=>h e.symm)
 have yg:∀ x,L.own id x->¬jM B L' x:=by
  rintro x hx (h|⟨i,h1,h2⟩)
  .have:=hB x h;have:=(r.hw id x hx).1;omega
  .exact h2 (r.hi i id x h1 hx)
 have own:∀ (v:Value) (T:TypeId) (n sz:Nat) (f:Nat->Nat->Value) (nl:Bool) (el:Nat->Nat->E),qP w v T n sz f nl->(∀ x,v.ownBlock=some x->L.own id x) ->
  (∀ i j,i<n->j<sz->iN (jM B L) (ky L) w (el i j) (f i j)/\(el i j).nr 2=true)->iN (jM B L') (ky L') w (.sl nl n sz el) v:=by
  intro v T n sz f nl el h1 h2 h3;rcases h1 with⟨rfl,rfl⟩|⟨b,c,cur,rfl,hg,qs,oI,oz,mf,kx⟩
  .exact .sl nl 0 sz el none 0 f (bC _) aG (λ_=>rfl) (λi j hi=>absurd hi (bO i)) (λi j hi=>absurd hi (bO i)) (λi j hi=>absurd hi (bO i)) (λi j hi=>absurd hi (bO i))
  .have rY:=h2 b rfl;refine .sl nl n sz el _ c f qs (by unfold maxLen at oI;omega) (λh=>by cases h) (λi j hi hj=>⟨(mf i j hi hj).2,λhn=>kx hn _ (eh (mf i j hi hj).1)⟩) (λi j hi hj=>(h3 i j hi hj).2)
    (λi j hi hj=>⟨b,0,rfl,yg b rY,(r.hw id b rY).2,?_⟩) (λi j hi hj=>iL.lQ (h3 i j hi hj).1)
   rw[cD];simp only[World.cell?,hg];simpa using(mf i j hi hj).1
 have hold:∀ v,v=L.val id->iN (jM B L') (ky L') w e v:=by
  rintro v rfl;have T8:=r.hb id b kq;cases b with
  |cells T l=>cases he
  |row nl T n sz el=>
   cases he;obtain⟨f,h1,h2,h3⟩:=T8;exact own _ T n sz f nl el h1 (λx hx=>(h2 x).2 hx) h3
  |lq nl T1 T0 n sz len el pend=>
   cases pend with
   |some k=>cases he
   |none=>
    cases he;obtain⟨b,c,cur,f,h1,h2,h3,h4,h5,h6,h7,h8,h9,uH,vQ⟩:=T8;have rY:L.own id b:=(h9 b).2 (.inl rfl);rw[h1];refine .sl true n 1 _ _ c (λk _=>L.jE id k) h3 (by unfold maxLen at h4;omega) (λh=>by cases h) (λk j hk hj=>?_) (λk j hk hj=>rfl)
     (λk j hk hj=>⟨b,0,rfl,yg b rY,(r.hw id b rY).2,?_⟩) (λk j hk hj=>own _ T0 (len k) sz (f k) nl (el k) (h8 k hk).1 (λx hx=>(h9 x).2 (.inr ⟨k,hk,hx⟩)) (h8 k hk).2)
    .obtain ⟨q1,q2⟩:=h7 _ (eh (h6 k hk aK));exact⟨q1,λ_=>q2⟩
    .rw [cD,cz];obtain rfl:j=0:= aE ;simp only[World.cell?,h2];simpa using h6 k hk aK 
 refine⟨L',r.hd,r.hs,λt=>?_,λi b' h=>?_,λi=>?_,λi x h=>⟨r.hn i x h.1,h.2⟩,λi x h=>r.hw i x h.1,λi i' x h k=>r.hi i i' x h.1 k.1,r.he,λh i b' k=>?_⟩
 .have hg:(σ.xY id e).get t=(σ.get t).xY id e:=by
   unfold PS.get PS.xY;rw[VO];cases look σ.t t<;>rfl
  rw[hg];have k:=r.ht t;generalize σ.get t=p at k;have move:∀ (p:PV) (v:Value),ot (jM B L) (ky L) L w p v->(p.qY.any (Nat.beq id))=false->ot (jM B L') (ky L') L' w p v:=by
   intro p v k hp;refine ot.move iL k λi hi vX=>⟨⟨vX,?_⟩,rfl,λ_=>rfl⟩
   rintro rfl;have:=dx.1 hp i hi;simp at this
  have gen:∀ (p:PV) (v:Value),ot (jM B L) (ky L) L w p v->ot (jM B L') (ky L') L' w (if p.qY.any (Nat.beq id)then .e .any else p) v:=by
   intro p v k;cases hp:p.qY.any (Nat.beq id)with
   |true=>exact .any _
   |false=>exact move p v k hp
  cases p with
  |own i=>
   simp only[PV.xY];by_cases hi:i=id
   .subst hi;rw[dX,bw rfl];exact hold _ k.2
   .rw [dY hi,bu aG];exact⟨⟨k.1,hi⟩,k.2⟩
  |_=>exact gen _ _ k
 .rw [w9]at h;split at h
  .cases h
  .rename_i hi;exact(r.hb i b' h).later iL rfl (λx=>⟨λq=>q.1,λq=>⟨q,hi⟩⟩) (λ_=>rfl) λ_ _=>rfl
 .rw [w9];show L.oW i/\i≠id↔_;by_cases hi:i=id
  .subst hi;simp
  .simp only[hi,dz,ff,and_true,bJ];exact r.hv i
 .rw [w9]at k;split at k
  .cases k
  .exact r.hl h i b' k
def PS.Df(σ:PS)(t id:Nat)(b:Bx):PS:={ σ with t:=(t,.own id)::σ.t.filter (λx=>!Nat.beq x.1 t),b:=(id,b)::σ.b }
def PS.le.aaA{σ:PS}(t id:Nat){nl:Bool}{T:TypeId}{sz:Nat}{el:Nat->Nat->E}(kq:σ.bo id=none)(hg:σ.get t = .e (.v (.slice none 0 0)))(kx:σ.nl=true->nl=true):PS.le σ (σ.Df t id (.row nl T 0 sz el)):=λw0 B a w L hB r=>by
 have vW:¬L.oW id:=λh=>by have:=(r.hv id).1 h;rw[kq]at this;cases this
 let L':Lk:=⟨λi=>L.oW i\/i=id,L.own,λi=>if i=id then .slice none 0 0 else L.val i,L.jE⟩
 have iL:tM L w L' w:=⟨bC _,λx _ h=>h,λ_ _ _=>rfl⟩
 have w9:∀ i,(σ.Df t id (.row nl T 0 sz el)).bo i=if i=id then some (.row nl T 0 sz el)else σ.bo i:=by
  intro i;unfold PS.bo PS.Df;rw[ui];by_cases h:id=i
  .rw [bw h,bw h.symm]
  .rw [bu h,bu (λe=>h e.symm)]
 have hv:a.tmps.getD t undef = .slice none 0 0:=by
  have:=r.ht t;rw[hg]at this;exact iN.kW this
 refine⟨L',r.hd,r.hs,λs=>?_,λi b' h=>?_,λi=>?_,λi x h=>.inl (r.hn i x h),r.hw,r.hi,r.he,λh i b' k=>?_⟩
 .have hgs:(σ.Df t id (.row nl T 0 sz el)).get s=if t=s then .own id else σ.get s:=by
   unfold PS.get PS.Df;simp only[ui];by_cases h:t=s
   .rw [bw h,bw h];rfl
   .rw [bu h,bu h,Gh _ _ _ h]
  rw[hgs];by_cases h:t=s
  .subst h;rw[bw rfl,hv];exact⟨.inr rfl,(bw rfl).symm⟩
  .rw [bu h];refine ot.move iL (r.ht s) λi _ vX=>⟨.inl vX,bu (λ(q:i=id)=>vW (q▸vX)),λ_=>rfl⟩
 .rw [w9]at h;split at h
  .rename_i hi;subst hi;cases h;refine⟨λ_ _=>undef,.inl ⟨bw rfl,rfl⟩,λx=>⟨λq=>absurd (r.hn _ _ q) vW,λq=>?_⟩,λi j hi=>absurd hi (bO i)⟩;have e1:L'.val i = .slice none 0 0:=bw rfl;rw[e1]at q;cases q
  .rename_i hi;exact(r.hb i b' h).later iL (bu hi) (λ_=>Iff.rfl) (λ_=>rfl) λ_ _=>rfl
 .rw [w9];show L.oW i\/i=id↔_;by_cases hi:i=id
  .subst hi;simp
  .simp only[hi,or_false,bJ];exact r.hv i
 .rw [w9]at k;split at k
  .cases k;exact kx h
  .exact r.hl h i b' k
end Go.Proofs.YtkjkcjhacddojaaGreatDoor.Pu
namespace Go.Proofs.YtkjkcjhacddojaaGreatDoor.Fp
def nB(x i:Nat)(b o:List Nat):Nat->List Nat×Nat
 | 0=>(o,0)
 |k+1=>
  let r:=nB x i b o k
  let z:=x*b.getD k 0+r.1.getD (i+k) 0+r.2
  (r.1.set (i+k) (z%4294967296),z/4294967296)
def mh(a b:List Nat):Nat->List Nat
 | 0=>List.replicate (a.length+b.length) 0
 |i+1=>
  let r:=nB (a.getD i 0) i b (mh a b i) b.length
  r.1.set (i+b.length) (r.2%4294967296)
def We{x y:Nat}(hx:x<4294967296)(hy:y<4294967296):x*y<=18446744065119617025:=by
 have:=dp (aE:x<=4294967295) (aE:y<=4294967295);omega
def yQ{L:List Nat}{k x:Nat}(hk:k<L.length):val (L.set k x)+4294967296^k*L.getD k 0=val L+4294967296^k*x:=by
 have:=Qa (x:=x) hk;rwa[bD,bI hk]
def vP{L:List Nat}{k j x:Nat}(h:k≠j):(L.set k x).getD j 0=L.getD j 0:=by
 simp only[bD,ado h]
def MB{L:List Nat}{k x:Nat}(h:k<L.length):(L.set k x).getD k 0=x:=by
 simp[bD,h]
structure aaq(x i:Nat)(b o:List Nat)(k:Nat)(r:List Nat×Nat):Prop where
 ok:iK r.1
 len:r.1.length=o.length
 lt:r.2<4294967296
 eq:val r.1+4294967296^(i+k)*r.2=val o+4294967296^i*(x*val (b.take k))
 qC:∀ j,i+k<=j->r.1.getD j 0=o.getD j 0
def Gp{x i:Nat}{b o:List Nat}(hx:x<4294967296)(hb:iK b)(ho:iK o)(hl:i+b.length<=o.length):∀ k,k<=b.length->aaq x i b o k (nB x i b o k)
 | 0,_=>⟨ho,rfl,aqc _,by simp[nB,val],λ_ _=>rfl⟩
 |k+1,hk=>by
  obtain⟨h1,h2,h3,h4,h5⟩:=Gp hx hb ho hl k aE;have hy:=hb.getD k;have hw:=h1.getD (i+k);have hm:=We hx hy;have hv:=vq b k;simp only[nB];generalize nB x i b o k=r at *
  generalize hz:x*b.getD k 0+r.1.getD (i+k) 0+r.2=z;have uS:=yQ (L:=r.1) (k:=i+k) (x:=z%4294967296) aE;refine⟨h1.set _ (bM _ aG),by simpa using h2,by show z/4294967296<_;omega,?_,λj hj=>?_⟩
  .have e1:z=z%4294967296+4294967296*(z/4294967296):=(dU z _).symm;show val (r.1.set (i+k) (z%4294967296))+4294967296^(i+(k+1))*(z/4294967296)=_;rw[hv,bR x,bR (4294967296^i),<-df (val o),<-h4];have e2:4294967296^(i+(k+1))*(z/4294967296)=4294967296^(i+k)*(4294967296*(z/4294967296)):=by rw[(aE:i+(k+1)=(i+k)+1),bH,bL]
   have e3:4294967296^i*(x*(4294967296^k*b.getD k 0))=4294967296^(i+k)*(x*b.getD k 0):=by rw[bE];simp only[bL,de]
   rw[e2,e3];have e4:4294967296^(i+k)*z=4294967296^(i+k)*(x*b.getD k 0)+4294967296^(i+k)*r.1.getD (i+k) 0+4294967296^(i+k)*r.2:=by rw[<-hz,bR,bR]
   have e5:4294967296^(i+k)*z=4294967296^(i+k)*(z%4294967296)+4294967296^(i+k)*(4294967296*(z/4294967296)):=by rw[<-bR,<-e1]
   omega
  .show (r.1.set (i+k) _).getD j 0=_;rw[vP aE,h5 j aE]
structure aar(a b:List Nat)(i:Nat)(o:List Nat):Prop where
 ok:iK o
 len:o.length=a.length+b.length
 eq:val o=val (a.take i)*val b
 zero:∀ j,i+b.length<=j->o.getD j 0=0
def Gq{a b:List Nat}(ha:iK a)(hb:iK b):∀ i,i<=a.length->aar a b i (mh a b i)
 | 0,_=>⟨iK.CT _,by simp[mh],by simp[mh,AB,val],λj _=>by
  by_cases h:j<a.length+b.length<;>simp[mh,bD,gz,h]⟩
 |i+1,hi=>by
  obtain⟨h1,h2,h3,h4⟩:=Gq ha hb i aE;obtain⟨q1,q2,q3,q4,q5⟩:=Gp (ha.getD i) hb h1 (i:=i) aE b.length (bC _);have hv:=vq a i;simp only[mh];generalize nB (a.getD i 0) i b (mh a b i) b.length=r at *
  have uS:=yQ (L:=r.1) (k:=i+b.length) (x:=r.2%4294967296) aE;rw[q5 _ (bC _),h4 _ (bC _),cU,bT,bU q3,q4,fR,h3]at uS;refine⟨q1.set _ (bM _ aG),aS,?_,λj hj=>?_⟩
  .rw [bU q3,uS,hv,ct,bL]
  .rw [vP aE,q5 _ aE,h4 _ aE]
def aoF{a b:List Nat}(ha:iK a)(hb:iK b):val (mh a b a.length)=val a*val b:=by
 have:=(Gq ha hb a.length (bC _)).eq;rwa[fR]at this
end Go.Proofs.YtkjkcjhacddojaaGreatDoor.Fp
namespace Go.Proofs.YtkjkcjhacddojaaGreatDoor
open Go.RowKit Fp Pu
abbrev jl(L:List Nat):Nat->Nat->E:=λi _=>.v (.int .u32 (L.getD i 0:Int))
def vi(n:Nat):IntKind.u32.wrap (n:Int)=((n%4294967296:Nat):Int):=by rw[IntKind.wrap_u32];omega
def NC(n:Nat)(h:n<9223372036854775808):IntKind.i64.wrap (n:Int)=n:=by rw[IntKind.wrap_i64];omega
def C5(n:Nat):(n:Int)/2^32=((n/4294967296:Nat):Int):= aE 
def As(n k:Nat):(n:Int)/2^k=((n/2^k:Nat):Int):=by rw[Int.natCast_ediv,Int.natCast_pow];rfl
def At{L:List Nat}{n:Nat}(h:n=L.length):E.le (.sl false n 1 (jl L)) (ic L):=by subst h;exact .refl _
def G5{T n n':Nat}{L:List Nat}(hn:n=n')(h:∀ i,L.getD i 0=0):Bx.le (.row false T n 1 λ_ j=>[.v (.int .u32 0)].getD j .any) (.row false T n' 1 (jl L)):=
 .row hn λi j _ hj=>by
  obtain rfl:j=0:= aE ;refine⟨.iM ?_,rfl⟩;show E.v (.int .u32 0)=E.v (.int .u32 (L.getD i 0:Int));rw[h i];rfl
def Pz{T n n' p:Nat}{L:List Nat}{z:Nat}(hn:n=n')(hp:p<L.length):Bx.le (.row false T n 1 λi' j'=>if i'=p/\0<=j'/\j'<0+1 then[.v (.int .u32 (z:Int))].getD (j'-0) .any else(jl L) i' j') (.row false T n' 1 (jl (L.set p z))):=
 .row hn λi j _ hj=>by
  obtain rfl:j=0:= aE ;refine⟨.iM ?_,rfl⟩;by_cases h:i=p
  .subst h;rw[bw ⟨rfl,aE,aE⟩];show E.v (.int .u32 (z:Int))=E.v (.int .u32 (((L.set i z).getD i 0:Nat):Int));rw[Fp.MB hp]
  .rw [bu (λq=>h q.1)];show E.v (.int .u32 (L.getD i 0:Int))=E.v (.int .u32 (((L.set p z).getD i 0:Nat):Int));rw[Fp.vP (λq=>h q.symm)]
def Yh{k l:IntKind}{a b c d:Int}(h:a=b)(h':c=d):Ending.returned (.tuple #[.int k a,.int l c]) = .returned (.tuple #[.int k b,.int l d]):=by rw[h,h']
def E7(x y c:Nat)(w:World)(hx:x<4294967296)(hy:y<4294967296)(hc:c<=1):
 Calls prog 379 #[.int .u32 x,.int .u32 y,.int .u32 c] w λe w'=>e = .returned (.tuple #[.int .u32 (((x+y+c)%4294967296:Nat):Int),.int .u32 (((x+y+c)/4294967296:Nat):Int)])/\w=w':=by
 go_enter func379,ntmps379;go_wp2;go_ret2;refine⟨?_,rfl⟩;exact Yh aE aE 
def Hj(a b:Nat)(ha:a<4294967296)(hb:b<4294967296):bits .or .u32 (a:Int) (b:Int)=((a |||b:Nat):Int):=by
 have h2:a |||b<2^32:=ap8 ha hb
 show IntKind.u32.wrap ((BitVec.ofInt 32 (a:Int) |||BitVec.ofInt 32 (b:Int)).toNat:Int)=_;rw[BitVec.toNat_or,fS,fS];rw[show((a:Int)%((2^32:Nat):Int)).toNat=a by omega,show((b:Int)%((2^32:Nat):Int)).toNat=b by omega];rw[IntKind.wrap_u32];omega
def ZN(a b:Nat)(ha:a<4294967296)(hb:b<4294967296):bits .and .u32 (a:Int) (b:Int)=((a &&& b:Nat):Int):=by
 have h2:a &&& b<2^32:=fP a hb;show IntKind.u32.wrap ((BitVec.ofInt 32 (a:Int) &&& BitVec.ofInt 32 (b:Int)).toNat:Int)=_;rw[BitVec.toNat_and,fS,fS];rw[show((a:Int)%((2^32:Nat):Int)).toNat=a by omega,show((b:Int)%((2^32:Nat):Int)).toNat=b by omega];rw[IntKind.wrap_u32];omega
def P7(a b:Nat)(ha:a<4294967296)(hb:b<4294967296):bits .xor .u32 (a:Int) (b:Int)=((a ^^^ b:Nat):Int):=by
 have h2:a ^^^ b<2^32:=fl ha hb;show IntKind.u32.wrap ((BitVec.ofInt 32 (a:Int) ^^^ BitVec.ofInt 32 (b:Int)).toNat:Int)=_;rw[BitVec.toNat_xor,fS,fS];rw[show((a:Int)%((2^32:Nat):Int)).toNat=a by omega,show((b:Int)%((2^32:Nat):Int)).toNat=b by omega];rw[IntKind.wrap_u32];omega
def KN(n:Nat)(h:n<4294967296):n/2147483648=(n.testBit 31).toNat:=by
 rw[Nat.testBit_eq_decide_div_mod_eq,show(2:Nat)^31=2147483648 from rfl];have h2:n/2147483648<2:= aE ;generalize n/2147483648=q at *
 have:q=0\/q=1:= aE ;rcases this with rfl|rfl<;>rfl
def ano(x y c d:Nat)(hx:x<4294967296)(hy:y<4294967296)(hc:c<=1)(hd:d=(x+(4294967296-y)+(4294967296-c))%4294967296):
 (((4294967295 ^^^ x) &&& y) ||| ((4294967295 ^^^ (x ^^^ y)) &&& d))/2147483648=if x<y+c then 1 else 0:=by
 have B8:d<4294967296:= aE ;have h1:4294967295 ^^^ x<2^32:=fl aG hx;have h2:x ^^^ y<2^32:=fl hx hy;have h3:4294967295 ^^^ (x ^^^ y)<2^32:=fl aG h2;have h4:(4294967295 ^^^ x) &&& y<2^32:=fP _ hy;have h5:(4294967295 ^^^ (x ^^^ y)) &&& d<2^32:=fP _ B8;rw[KN _ (ap8 h4 h5)];have tx:=KN x hx;have ty:=KN y hy;have td:=KN d B8;rw[Nat.testBit_or,Nat.testBit_and,Nat.testBit_and,aqd,aqd,aqd,show(4294967295:Nat).testBit 31=true by decide];clear h1 h2 h3 h4 h5;generalize x.testBit 31=p at *
 generalize y.testBit 31=q at *
 generalize d.testBit 31=r at *
 cases p<;>cases q<;>cases r<;>simp at tx ty td ⊢ <;> omega
def BU(x y c:Nat):Nat:=if x<y+c then 1 else 0
def xT(x y c:Nat):Nat:=(x+(4294967296-y)+(4294967296-c))%4294967296
def Fj(x y c:Nat)(hx:x<4294967296)(hy:y<4294967296)(hc:c<=1):xT x y c+y+c=x+4294967296*BU x y c/\BU x y c<=1/\xT x y c<4294967296:=by
 unfold xT BU;split<;>omega
def Ze(x y c:Nat)(w:World)(hx:x<4294967296)(hy:y<4294967296)(hc:c<=1):
 Calls prog 380 #[.int .u32 x,.int .u32 y,.int .u32 c] w λe w'=>e = .returned (.tuple #[.int .u32 (xT x y c:Nat),.int .u32 (BU x y c:Nat)])/\w=w':=by
 go_enter func380,ntmps380;go_wp2;go_ret2;refine⟨?_,rfl⟩;have hd:((x:Int)-y-c)%4294967296=(xT x y c:Int):=by unfold xT;omega
 have hb:=ano x y c (xT x y c) hx hy hc rfl;have hl:=(Fj x y c hx hy hc).2.2;have em:IntKind.u32.max=((4294967295:Nat):Int):=rfl;refine Yh hd ?_;rw[hd,em,P7 _ _ aG hx,P7 _ _ hx hy];have h1:4294967295 ^^^ x<2^32:=fl aG hx;have h2:x ^^^ y<2^32:=fl hx hy;have h3:4294967295 ^^^ (x ^^^ y)<2^32:=fl aG h2;rw[P7 _ _ aG h2,ZN _ _ h1 hy,ZN _ _ h3 hl];have h4:(4294967295 ^^^ x) &&& y<2^32:=fP _ hy;have h5:(4294967295 ^^^ (x ^^^ y)) &&& xT x y c<2^32:=fP _ hl;rw[Hj _ _ h4 h5];unfold BU;rw[<-hb];omega
def QB{O:List Nat}{k c x y P Q P' Q':Nat}(ho:O[k]? = some 0)(h:val O+4294967296^k*c=P+Q)
 (hP:P'=P+4294967296^k*x) (hQ:Q'=Q+4294967296^k*y):
 val (O.set k ((x+y+c)%4294967296))+4294967296^(k+1)*((x+y+c)/4294967296)=P'+Q':=by
 have h1:=Om (a:=1) (b:=x+y) (c:=c) ho;rw[ck,bT]at h1;rw[h1,h,hP,hQ,bR];omega
def Zh{O:List Nat}{k c x y d c' P Q P' Q':Nat}(ho:O[k]? = some 0)(h:val O+Q=P+4294967296^k*c)
 (hP:P'=P+4294967296^k*x) (hQ:Q'=Q+4294967296^k*y) (hd:d+y+c=x+4294967296*c'):
 val (O.set k d)+Q'=P'+4294967296^(k+1)*c':=by
 obtain⟨hk,h0⟩:=cH.1 ho;have h1:=Qa (x:=d) hk;rw[h0,cU,bT]at h1;have e:=congrArg (4294967296^k * ·) hd;simp only[bR,<-bL]at e;rw[bH,h1,hP,hQ];omega
def uA(O:List Nat)(k:Nat):Prop:=∀ j,k<=j->j<O.length->O[j]? = some 0
def uA.at{O:List Nat}{k:Nat}(h:uA O k)(hk:k<O.length):O[k]? = some 0:=h k (bC _) hk
def uA.set{O:List Nat}{k:Nat}(h:uA O k)(v:Nat):uA (O.set k v) (k+1):=λj h1 h2=>by
 rw[ado aE];exact h j aE (by simpa using h2)
def uA.Qg(n:Nat):uA (List.replicate n 0) 0:=λj _ h=>by
 rw[gz];rw[bw (by simpa using h)]
def Lf(w:World)(v n:Nat)(e:Ending)(w':World):Prop:=∃ T,val T=v/\iK T/\T.length=n/\tN w T e w'
def Qq(w:World)(v n:Nat)(e:Ending)(w':World):Prop:=∃ T,val T=v/\iK T/\T.length<=n/\tN w T e w'
def aiB(A B:Option Addr)(c d:Nat)(L M:List Nat)(w:World)(hs:Sl w A c L)(hr:Sl w B d M)(h1:L.length<=3000)(_h2:M.length<=3000)(hc:M.length<=L.length):
 Calls prog 360 #[.slice A L.length c,.slice B M.length d] w (Lf w (val L+val M) (L.length+1)):=by
 obtain⟨l,hl⟩:∃ l,l=L.length:=⟨_,rfl⟩
 obtain⟨m,hm⟩:∃ m,m=M.length:=⟨_,rfl⟩
 rw[<-hl,<-hm]at hc;rw[<-hl]at h1;rw[<-hm]at _h2;have HL:=aqG hl;have HM:=aqG hm;rw[<-hl,<-hm];clear hl hm;have d0:decide ((l:Int)<m)=false:=bB aE;have d1:decide (l<m)=false:=bB aE;have pH:=Ei (l+1) aE;rw[show((l+1:Nat):Int)=l+1 by omega]at pH;have vU:=aqG (Rw.yD w (l+1));go_enter func360,ntmps360;go_wp2;go_loopw [6,7,8,9,23] (λcy _ _ _ i wr=>∃ (k q:Nat) (O:List Nat),k<=l/\i = .int .i64 k/\cy = .int .u32 q/\q<=1/\O.length=l+1/\iK O/\uA O k/\val O+4294967296^k*q=val (L.take k)+val (M.take k)/\Rw wr w.heap.size O/\iJ w wr) (λ_ _ _ _ i _=>l-(intOf i).toNat)
 case atStart=>
  exact⟨0,0,List.replicate (l+1) 0,cj _,rfl,rfl,aG,aK,iK.CT _,uA.Qg _,by simp[AB],vU.out,iJ.alloc _ _⟩
 case round=>
  obtain⟨k,q,O,hk,rfl,rfl,hq,hO,lE,hz,lP,hR,hb⟩:=hrel;have HV:=aqG lP;have HO:=aqG hO;clear lP hO;have HZ:=aqG hz;clear hz;by_cases iL:k<l
  .have ua:k<L.length:=by have:=HL.out;omega
   obtain⟨ab,ao,e1,_,c1⟩:=(hs.below hb).lR ua;have nd:L[k]<4294967296:=hs.ok.get ua;have ho:=HZ.out.at (by have:=HO.out;omega)
   have c4:=hR.frozen k;have Ja:=hR.cell ho;have HT:=aqG (yR L k ua);have HY:=aqG (vq M k);have pY:M.getD k 0<4294967296:=hr.ok.getD k;have HYc:=aqG (λ(h:k<M.length)=>(hr.below hb).lR h);have HYg:=aqG (λ(h:k<M.length)=>AW h);have HYn:=aqG (λ(h:¬k<M.length)=>DH h);have HX:=aqG (rfl:L[k]=L[k]);obtain⟨a,ha⟩:∃ a,a=L[k]:=⟨_,rfl⟩
   rw[<-ha]at c1 nd HT;clear ha HX ua;have HS:=aqG (QB ho HV.out HT.out HY.out);have HN:=aqG (λv=>HZ.out.set v);have HOK:=aqG (λv=>lE.Ky k v);have HR2:=aqG (λv:Nat=>hR.set k v);have HE2:=aqG (λv:Value=>hb.setCell (p:=⟨w.heap.size,k,none⟩) (bC _) v);clear ho hR hb lE;subst e1;by_cases UZ:k<m
   .have xh:k<M.length:=by have:=HM.out;omega
    obtain⟨bb,bo,e2,_,c2⟩:=HYc.out xh;subst e2;rw[<-HYg.out xh]at c2;generalize M.getD k 0=b at *
    clear HYc HYg HYn xh;have HA:=aqG (λw=>E7 a b q w nd pY hq);go_wp2_with fail;refine(HA.out _).mono ?_;rintro e w1 ⟨rfl,rfl⟩;go_wp2;go_roundw
    case rel=>
     exact⟨k+1,(a+b+q)/4294967296,O.set k ((a+b+q)%4294967296),aE,by go_num,rfl,aE,by rw[cV];exact HO.out,HOK.out _,HN.out _,HS.out,HR2.out _,HE2.out _⟩
    case measure=>simp[intOf];omega
   .rw [HYn.out (by have:=HM.out;omega)]at HS;clear HYc HYg HYn pY HY;have HA:=aqG (λw=>E7 a 0 q w nd aG hq);go_wp2_with fail;refine(HA.out _).mono ?_;rintro e w1 ⟨rfl,rfl⟩;go_wp2;go_roundw
    case rel=>
     exact⟨k+1,(a+0+q)/4294967296,O.set k ((a+0+q)%4294967296),aE,by go_num,rfl,aE,by rw[cV];exact HO.out,HOK.out _,HN.out _,HS.out,HR2.out _,HE2.out _⟩
    case measure=>simp[intOf];omega
  .obtain rfl:k=l:= aE ;have ho:=HZ.out.at (by have:=HO.out;omega)
   have c4:=hR.frozen k;have Ja:=hR.cell ho;have HF:=aqG (show val (O.set k q)=val L+val M by
    have h:=LJ (c:=q) ho;rw[cD,bU aE,cF aE,cU,bT,HV.out,show L.take k=L from cT (by rw[HL.out];exact bC _),show M.take k=M from cT (by rw[<-HM.out];omega)]at h;omega)
   have HLn:=aqG (show(O.set k q).length=k+1 by rw[cV];exact HO.out);have HOK:Hid (iK (O.set k q)):=lE.set k aE;have HR2:=aqG (hR.set k q);have HE2:=aqG (λv:Value=>hb.setCell (p:=⟨w.heap.size,k,none⟩) (bC _) v);clear ho hR hb lE;go_wp2;go_ret;have ue:=HR2.out.sl HOK.out (by rw[HLn.out];omega);rw[HLn.out]at ue;exact⟨_,HF.out,HOK.out,HLn.out,_,_,(by rw[HLn.out];rfl),ue,HE2.out _⟩
def aiC(A B:Option Addr)(c d:Nat)(L M:List Nat)(w:World)(hs:Sl w A c L)(hr:Sl w B d M)(h1:L.length<=3000)(h2:M.length<=3000)(hc:L.length<M.length):
 Calls prog 360 #[.slice A L.length c,.slice B M.length d] w (Lf w (val L+val M) (M.length+1)):=by
 obtain⟨l,hl⟩:∃ l,l=L.length:=⟨_,rfl⟩
 obtain⟨m,hm⟩:∃ m,m=M.length:=⟨_,rfl⟩
 rw[<-hl,<-hm]at hc;rw[<-hl]at h1;rw[<-hm]at h2;have HL:=aqG hl;have HM:=aqG hm;rw[<-hl,<-hm];clear hl hm;have d0:decide ((l:Int)<m)=true:=bA aE;have d1:decide (l<m)=true:=bA aE;have pH:=Ei (m+1) aE;rw[show((m+1:Nat):Int)=m+1 by omega]at pH;have vU:=aqG (Rw.yD w (m+1));go_enter func360,ntmps360;go_wp2;go_loopw [6,7,8,9,23] (λcy _ _ _ i wr=>∃ (k q:Nat) (O:List Nat),k<=m/\i = .int .i64 k/\cy = .int .u32 q/\q<=1/\O.length=m+1/\iK O/\uA O k/\val O+4294967296^k*q=val (M.take k)+val (L.take k)/\Rw wr w.heap.size O/\iJ w wr) (λ_ _ _ _ i _=>m-(intOf i).toNat)
 case atStart=>
  exact⟨0,0,List.replicate (m+1) 0,cj _,rfl,rfl,aG,aK,iK.CT _,uA.Qg _,by simp[AB],vU.out,iJ.alloc _ _⟩
 case round=>
  obtain⟨k,q,O,hk,rfl,rfl,hq,hO,lE,hz,lP,hR,hb⟩:=hrel;have HV:=aqG lP;have HO:=aqG hO;clear lP hO;have HZ:=aqG hz;clear hz;by_cases iL:k<m
  .have ua:k<M.length:=by have:=HM.out;omega
   obtain⟨ab,ao,e1,_,c1⟩:=(hr.below hb).lR ua;have nd:M[k]<4294967296:=hr.ok.get ua;have ho:=HZ.out.at (by have:=HO.out;omega)
   have c4:=hR.frozen k;have Ja:=hR.cell ho;have HT:=aqG (yR M k ua);have HY:=aqG (vq L k);have pY:L.getD k 0<4294967296:=hs.ok.getD k;have HYc:=aqG (λ(h:k<L.length)=>(hs.below hb).lR h);have HYg:=aqG (λ(h:k<L.length)=>AW h);have HYn:=aqG (λ(h:¬k<L.length)=>DH h);have HX:=aqG (rfl:M[k]=M[k]);obtain⟨a,ha⟩:∃ a,a=M[k]:=⟨_,rfl⟩
   rw[<-ha]at c1 nd HT;clear ha HX ua;have HS:=aqG (QB ho HV.out HT.out HY.out);have HN:=aqG (λv=>HZ.out.set v);have HOK:=aqG (λv=>lE.Ky k v);have HR2:=aqG (λv:Nat=>hR.set k v);have HE2:=aqG (λv:Value=>hb.setCell (p:=⟨w.heap.size,k,none⟩) (bC _) v);clear ho hR hb lE;subst e1;by_cases UZ:k<l
   .have xh:k<L.length:=by have:=HL.out;omega
    obtain⟨bb,bo,e2,_,c2⟩:=HYc.out xh;subst e2;rw[<-HYg.out xh]at c2;generalize L.getD k 0=b at *
    clear HYc HYg HYn xh;have HA:=aqG (λw=>E7 a b q w nd pY hq);go_wp2_with fail;refine(HA.out _).mono ?_;rintro e w1 ⟨rfl,rfl⟩;go_wp2;go_roundw
    case rel=>
     exact⟨k+1,(a+b+q)/4294967296,O.set k ((a+b+q)%4294967296),aE,by go_num,rfl,aE,by rw[cV];exact HO.out,HOK.out _,HN.out _,HS.out,HR2.out _,HE2.out _⟩
    case measure=>simp[intOf];omega
   .rw [HYn.out (by have:=HL.out;omega)]at HS;clear HYc HYg HYn pY HY;have HA:=aqG (λw=>E7 a 0 q w nd aG hq);go_wp2_with fail;refine(HA.out _).mono ?_;rintro e w1 ⟨rfl,rfl⟩;go_wp2;go_roundw
    case rel=>
     exact⟨k+1,(a+0+q)/4294967296,O.set k ((a+0+q)%4294967296),aE,by go_num,rfl,aE,by rw[cV];exact HO.out,HOK.out _,HN.out _,HS.out,HR2.out _,HE2.out _⟩
    case measure=>simp[intOf];omega
  .obtain rfl:k=m:= aE ;have ho:=HZ.out.at (by have:=HO.out;omega)
   have c4:=hR.frozen k;have Ja:=hR.cell ho;have HF:=aqG (show val (O.set k q)=val L+val M by
    have h:=LJ (c:=q) ho;rw[cD,bU aE,cF aE,cU,bT,HV.out,show M.take k=M from cT (by rw[HM.out];exact bC _),show L.take k=L from cT (by rw[<-HL.out];omega)]at h;omega)
   have HLn:=aqG (show(O.set k q).length=k+1 by rw[cV];exact HO.out);have HOK:Hid (iK (O.set k q)):=lE.set k aE;have HR2:=aqG (hR.set k q);have HE2:=aqG (λv:Value=>hb.setCell (p:=⟨w.heap.size,k,none⟩) (bC _) v);clear ho hR hb lE;go_wp2;go_ret;have ue:=HR2.out.sl HOK.out (by rw[HLn.out];omega);rw[HLn.out]at ue;exact⟨_,HF.out,HOK.out,HLn.out,_,_,(by rw[HLn.out];rfl),ue,HE2.out _⟩
def Wq(A B:Option Addr)(c d:Nat)(L M:List Nat)(w:World)(hs:Sl w A c L)(hr:Sl w B d M)(h1:L.length<=3000)(h2:M.length<=3000):
 Calls prog 360 #[.slice A L.length c,.slice B M.length d] w (Lf w (val L+val M) (max L.length M.length+1)):=by
 by_cases hc:M.length<=L.length
 .rw [Nat.max_eq_left hc];exact aiB A B c d L M w hs hr h1 h2 hc
 .rw [Nat.max_eq_right aE];exact aiC A B c d L M w hs hr h1 h2 aE 
def aiA(A B:Option Addr)(c d:Nat)(L M:List Nat)(w:World)(hs:Sl w A c L)(hr:Sl w B d M)(h1:L.length<=3000)(h2:M.length<=3000):
 Calls prog 360 #[.slice A L.length c,.slice B M.length d] w (Qq w (val L+val M) (max L.length M.length+1)):=
 (Wq A B c d L M w hs hr h1 h2).mono λ_ _ ⟨T,a,b,c,d⟩=>⟨T,a,b,gF c,d⟩
def aiD(A B:Option Addr)(c d:Nat)(L M:List Nat)(w:World)(wb:Sl w A c L)(wa:Sl w B d M)(h1:L.length<=3000)(_h2:M.length<=3000)(hle:val M<=val L):
 Calls prog 361 #[.slice A L.length c,.slice B M.length d] w (Qq w (val L-val M) L.length):=by
 have MM:=aqG (λw (h:Sl w A c L)=>uZ A c L w h);have MN:=aqG (λw (h:Sl w B d M)=>uZ B d M w h);have hs:=wb.ur;have hr:=wa.ur;have zS:=oZ L;have UP:=oZ M;have yo:=pq L;have nR:=pq M;have DX:(ix M).length<=(ix L).length:=by
  apply ca;intro h;have:=KX hs.ok (Av M) aE;omega
 unfold mC at yo nR;rw[<-zS,<-UP]at hle ⊢;clear zS UP;obtain⟨n1,sP⟩:∃ n,n=L.length:=⟨_,rfl⟩
 obtain⟨n2,kg⟩:∃ n,n=M.length:=⟨_,rfl⟩
 rw[<-sP]at h1 yo MM ⊢;rw[<-kg]at _h2 nR MN ⊢;have HTL:=aqG (MM.out w wb);have HTM:=aqG (MN.out w wa);clear MM MN wb wa sP kg;generalize ix L=L at *
 generalize ix M=M at *
 obtain⟨l,hl⟩:∃ l,l=L.length:=⟨_,rfl⟩
 obtain⟨m,hm⟩:∃ m,m=M.length:=⟨_,rfl⟩
 rw[<-hl]at yo HTL DX;rw[<-hm]at nR HTM DX;have HL:=aqG hl;have HM:=aqG hm;have HLE:=aqG hle;clear hl hm hle;have pH:=Ei l aE;have vU:=aqG (Rw.yD w l);go_enter func361,ntmps361;go_wp2_with fail;refine HTL.out.mono ?_;rintro e w1 ⟨rfl,rfl⟩;go_wp2_with fail;refine HTM.out.mono ?_;rintro e w1 ⟨rfl,rfl⟩;go_wp2;go_loopw [6,7,8,9,19] (λcy _ _ _ i wr=>∃ (k q:Nat) (O:List Nat),k<=l/\i = .int .i64 k/\cy = .int .u32 q/\q<=1/\O.length=l/\iK O/\uA O k/\val O+val (M.take k)=val (L.take k)+4294967296^k*q/\Rw wr w.heap.size O/\iJ w wr) (λ_ _ _ _ i _=>l-(intOf i).toNat)
 case atStart=>
  exact⟨0,0,List.replicate l 0,cj _,rfl,rfl,aG,aK,iK.CT _,uA.Qg _,by simp[AB],vU.out,iJ.alloc _ _⟩
 case round=>
  obtain⟨k,q,O,hk,rfl,rfl,hq,hO,lE,hz,lP,hR,hb⟩:=hrel;have HV:=aqG lP;have HO:=aqG hO;clear lP hO;have HZ:=aqG hz;clear hz;by_cases iL:k<l
  .have ua:k<L.length:=by have:=HL.out;omega
   obtain⟨ab,ao,e1,_,c1⟩:=(hs.below hb).lR ua;have nd:L[k]<4294967296:=hs.ok.get ua;have ho:=HZ.out.at (by have:=HO.out;omega)
   have c4:=hR.frozen k;have Ja:=hR.cell ho;have HT:=aqG (yR L k ua);have HY:=aqG (vq M k);have pY:M.getD k 0<4294967296:=hr.ok.getD k;have HYc:=aqG (λ(h:k<M.length)=>(hr.below hb).lR h);have HYg:=aqG (λ(h:k<M.length)=>AW h);have HYn:=aqG (λ(h:¬k<M.length)=>DH h);obtain⟨a,ha⟩:∃ a,a=L[k]:=⟨_,rfl⟩
   rw[<-ha]at c1 nd HT;clear ha ua;have HN:=aqG (λv=>HZ.out.set v);have HOK:=aqG (λ(v:Nat) (h:v<4294967296)=>lE.set k h);have HR2:=aqG (λv:Nat=>hR.set k v);have HE2:=aqG (λv:Value=>hb.setCell (p:=⟨w.heap.size,k,none⟩) (bC _) v);have HO0:=aqG ho;clear ho hR hb lE;subst e1;by_cases UZ:k<m
   .have xh:k<M.length:=by have:=HM.out;omega
    obtain⟨bb,bo,e2,_,c2⟩:=HYc.out xh;subst e2;rw[<-HYg.out xh]at c2;generalize M.getD k 0=b at *
    clear HYc HYg HYn xh;have HS:=aqG (Zh HO0.out HV.out HT.out HY.out (Fj a b q nd pY hq).1);have HD:=aqG (Fj a b q nd pY hq).2;have HA:=aqG (λw=>Ze a b q w nd pY hq);generalize xT a b q=dd at *
    generalize BU a b q=bb' at *
    go_wp2_with fail;refine(HA.out _).mono ?_;rintro e w1 ⟨rfl,rfl⟩;go_wp2;go_roundw
    case rel=>
     exact⟨k+1,bb',O.set k dd,aE,by go_num,rfl,HD.out.1,by rw[cV];exact HO.out,HOK.out _ HD.out.2,HN.out _,HS.out,HR2.out _,HE2.out _⟩
    case measure=>simp[intOf];omega
   .rw [HYn.out (by have:=HM.out;omega)]at HY;clear HYc HYg HYn pY;have HS:=aqG (Zh HO0.out HV.out HT.out HY.out (Fj a 0 q nd aG hq).1);have HD:=aqG (Fj a 0 q nd aG hq).2;have HA:=aqG (λw=>Ze a 0 q w nd aG hq);generalize xT a 0 q=dd at *
    generalize BU a 0 q=bb' at *
    go_wp2_with fail;refine(HA.out _).mono ?_;rintro e w1 ⟨rfl,rfl⟩;go_wp2;go_roundw
    case rel=>
     exact⟨k+1,bb',O.set k dd,aE,by go_num,rfl,HD.out.1,by rw[cV];exact HO.out,HOK.out _ HD.out.2,HN.out _,HS.out,HR2.out _,HE2.out _⟩
    case measure=>simp[intOf];omega
  .obtain rfl:k=l:= aE ;have HF:=aqG (show val O=val L-val M by
    have h:=HV.out;rw[show L.take k=L from cT (by rw[HL.out];exact bC _),show M.take k=M from cT (by rw[<-HM.out];exact DX)]at h;exact(Zg lE HO.out h HLE.out).2)
   go_wp2;go_ret;have ue:=hR.sl lE (by rw[HO.out];omega);exact⟨_,HF.out,lE,by rw[HO.out];exact yo,_,_,(by rw[HO.out];rfl),ue,hb⟩
def ZH{T:List Nat}{v:Nat}(h:iK T)(hv:val T=v):ix T=ia v:=by rw[qN h,hv]
def ain(A B:Option Addr)(c d:Nat)(L M:List Nat)(w:World)(hs:Sl w A c L)(hr:Sl w B d M)(h1:L.length<=256)(h2:M.length<=256)(hf:(ia (val L+val M)).length<=256):
 Calls prog 321 #[.slice A L.length c,.slice B M.length d] w (Dd w (ia (val L+val M)) 0):=by
 have H1:=aqG (λw (h:Sl w A c L) (k:Sl w B d M)=>aiA A B c d L M w h k aE aE);generalize val L+val M=v at *
 go_enter func321,ntmps321;go_wp2_with fail;refine(VL _ A B _ c _ d _ false (Qs _ _ _ _ _ _ _) (Qt _ _ _ _ _ _ _) aS).mono ?_;rintro e w' ⟨rfl,rfl⟩;go_wp2_with fail;refine(H1.out _ (hs.alloc _) (hr.alloc _)).mono ?_;rintro e w' ⟨T,hv,hk,hl,A',c',rfl,oi,hb⟩;have ht:=aqG (ZH hk hv);go_wp2_with fail;refine(Gs A' c' T _ oi (by rw[ht.out];exact hf)).mono ?_;rintro e w'' ⟨A'',c'',rfl,qT,nu⟩;rw[ht.out]at qT ⊢;go_wp2;go_ret2;exact⟨A'',c'',rfl,qT,(iJ.alloc _ _).trans (hb.trans nu)⟩
def aiz(A B:Option Addr)(c d:Nat)(L M:List Nat)(w:World)(hs:Sl w A c L)(hr:Sl w B d M)(h1:L.length<=256)(h2:M.length<=256)(hle:val M<=val L):
 Calls prog 322 #[.slice A L.length c,.slice B M.length d] w (Dd w (ia (val L-val M)) 0):=by
 have H1:=aqG (λw (h:Sl w A c L) (k:Sl w B d M)=>aiD A B c d L M w h k aE aE hle);have HC:=aqG (λw (h:Sl w A c L) (k:Sl w B d M)=>JX A B c d L M w h k aE aE);have hc:decide (kE (val L) (val M)<0)=false:=by
  apply bB;unfold kE;rw[bu aE];split<;>decide
 have hf:(ia (val L-val M)).length<=256:=bG (mU (ey _ _)) (N9 hs.ok h1);generalize val L-val M=v at *
 generalize kE (val L) (val M)=q at *
 clear hle;go_enter func322,ntmps322;go_wp2_with fail;refine(VL _ A B _ c _ d _ false (Qs _ _ _ _ _ _ _) (Qt _ _ _ _ _ _ _) aS).mono ?_;rintro e w' ⟨rfl,rfl⟩;go_wp2_with fail;refine(HC.out _ (hs.alloc _) (hr.alloc _)).mono ?_;rintro e w1 ⟨rfl,kP⟩;go_wp2_with fail;refine(H1.out _ ((hs.alloc _).below kP) ((hr.alloc _).below kP)).mono ?_;rintro e w' ⟨T,hv,hk,hl,A',c',rfl,oi,hb⟩;have ht:=aqG (ZH hk hv);go_wp2_with fail;refine(Gs A' c' T _ oi (by rw[ht.out];exact hf)).mono ?_;rintro e w'' ⟨A'',c'',rfl,qT,nu⟩;rw[ht.out]at qT ⊢;go_wp2;go_ret2;exact⟨A'',c'',rfl,qT,(iJ.alloc _ _).trans (kP.trans (hb.trans nu))⟩
end Go.Proofs.YtkjkcjhacddojaaGreatDoor
namespace Go.Proofs.YtkjkcjhacddojaaGreatDoor.Fp
def vF(d:Dy):Dy:=if oB d then d else jD
def vG(d:Dy):Int:=if oB d then 0 else 9
def Ry{d:Dy}(h:oB d):vF d=d:=bw h
def Rv{d:Dy}(h:oB d):vG d=0:=bw h
def acH{d:Dy}(h:¬oB d):vF d=jD:=bu h
def acG{d:Dy}(h:¬oB d):vG d=9:=bu h
def Zj{a b:Dy}(ha:a.m≠0)(hb:b.m≠0):jc a b=jc b a:=by
 unfold jc;rw[bu ha,bu hb,bu hb,bu ha,Int.min_comm,Int.add_comm]
def jj(m:Nat)(e:Int)(p:Nat):Nat:=(max (max ((iq m:Int)-p) (-16384-e)) 0).toNat
def kT(m:Nat)(e:Int)(more:Bool)(p:Nat)(out:Bool):Nat:=
 m/2^jj m e p+if out=true/\(more=true\/m%2^jj m e p≠0)then 1 else 0
def mv(m:Nat)(e:Int)(more:Bool)(p:Nat)(out:Bool):Bool:=
 decide (kT m e more p out≠0)&&decide (16384<(iq (kT m e more p out):Int)+e+jj m e p)
def jY(neg:Bool)(m:Nat)(e:Int)(more:Bool)(p:Nat)(up:Bool):Dy:=
 if mv m e more p (neg != up)=true then(if(neg != up)=true then jD else canon neg (2^p-1) (16384-p))else canon neg (kT m e more p (neg != up)) (e+jj m e p)
def jP(neg:Bool)(m:Nat)(e:Int)(more:Bool)(p:Nat)(up:Bool):Int:=
 if(mv m e more p (neg != up)&&(neg != up))=true then 9 else 0
def adv{N d k:Nat}:(N/2^d%2^k≠0\/N%2^d≠0)↔N%2^(d+k)≠0:=by
 have e1:N%2^(d+k)=N%2^d+2^d*(N/2^d%2^k):=by rw[bE,gG]
 have hp:0<2^d:=bF aG;rw[e1];constructor
 .rintro (h|h)
  .have:=fA hp (en h);omega
  .omega
 .intro h;by_cases h1:N%2^d=0
  .left;intro h2;rw[h1,h2,cU]at h;exact h rfl
  .exact .inr h1
def acZ{N:Nat}{E:Int}{more:Bool}{d p:Nat}(hb:p<iq (N/2^d)):
 jj (N/2^d) (E+d) p+d=jj N E p /\
 ∀ out,kT (N/2^d) (E+d) (more||decide (N%2^d≠0)) p out=kT N E more p out:=by
 have hN:d<iq N:=by
  apply ca;intro h;have h1:N<2^d:=ln.1 aE;rw[cF h1]at hb;simp[iq]at hb
 have B5:iq (N/2^d)+d=iq N:=by
  have h0:N/2^d≠0:=by intro h;rw[h]at hb;simp[iq]at hb
  have h1:=sF h0;have h2:=pK (N/2^d);obtain⟨j,hj⟩:∃ j,iq (N/2^d)=j+1:=⟨iq (N/2^d)-1,aE⟩
  rw[hj]at h1 h2 ⊢;rw[eu,dq (bF aG),<-bE]at h1;rw[cA (bF aG),<-bE]at h2;have:=vz (k:=j+d) h1 (by rw[(aE:j+d+1=j+1+d)];exact h2);omega
 have hk:jj (N/2^d) (E+d) p+d=jj N E p:=by
  unfold jj;omega
 refine⟨hk,λout=>?_⟩;unfold kT;rw[<-hk];generalize jj (N/2^d) (E+d) p=k;have M5:=@adv N d k;rw[(aE:k+d=d+k),cW,<-bE];congr 1;have:((more||decide (N%2^d≠0))=true\/N/2^d%2^k≠0)↔(more=true\/N%2^(d+k)≠0):=by
  rw[<-M5];simp only[fO,cS];constructor
  .rintro ((h|h)|h)
   .exact .inl h
   .exact .inr (.inr h)
   .exact .inr (.inl h)
  .rintro (h|h|h)
   .exact .inl (.inl h)
   .exact .inr h
   .exact .inl (.inr h)
 by_cases ho:out=true
 .simp only[ho,true_and,this]
 .rw [bu (λh=>ho h.1),bu (λh=>ho h.1)]
def Iw{N:Nat}{E:Int}{more:Bool}{d p:Nat}(neg up:Bool)(hb:p<iq (N/2^d)):
 jY neg (N/2^d) (E+d) (more||decide (N%2^d≠0)) p up=jY neg N E more p up /\
 jP neg (N/2^d) (E+d) (more||decide (N%2^d≠0)) p up=jP neg N E more p up:=by
 obtain⟨hk,hq⟩:=acZ (more:=more) (E:=E) hb;have hq:=hq (neg != up);have e1:E+(d:Int)+(jj (N/2^d) (E+d) p:Int)=E+(jj N E p:Int):= aE ;have e2:(iq (kT N E more p (neg != up)):Int)+(E+(d:Int))+(jj (N/2^d) (E+d) p:Int)=(iq (kT N E more p (neg != up)):Int)+E+(jj N E p:Int):= aE ;have ho:mv (N/2^d) (E+d) (more||decide (N%2^d≠0)) p (neg != up)=mv N E more p (neg != up):=by
  unfold mv;rw[hq,e2]
 unfold jY jP;rw[hq,ho,e1];exact⟨rfl,rfl⟩
def LI(s:Bool)(m:Nat)(e:Int)(j:Nat):canon s (m*2^j) (e-j)=canon s m e:=by
 by_cases h0:m=0
 .subst h0;rw[cP];rfl
 .have h1:m*2^j≠0:=dV h0 (ev (bF aG));obtain⟨q,hq,he⟩:=BX h0;have hc:jZ (m*2^j)=jZ m+j:=by
   conv=>lhs;rw[he,bL,<-bE]
   exact y7 hq _
  unfold canon;rw[bu h1,bu h0,hc,bE,bK (2^jZ m),<-cW,dW _ (bF aG)];rw[(aE:e-(j:Int)+((jZ m+j:Nat):Int)=e+(jZ m:Int))]
def acY(neg up:Bool)(N:Nat)(E:Int)(j p:Nat)(h0:N≠0):
 jY neg (N*2^j) (E-j) false p up=jY neg N E false p up/\jP neg (N*2^j) (E-j) false p up=jP neg N E false p up:=by
 have B5:=re h0 j;by_cases hk:jj N E p=0
 .
  have tZ:jj (N*2^j) (E-j) p<=j:=by unfold jj at hk ⊢;rw[B5];omega
  obtain⟨i,hi⟩:∃ i,j=i+jj (N*2^j) (E-j) p:=⟨j-jj (N*2^j) (E-j) p,aE⟩
  generalize hK:jj (N*2^j) (E-j) p=k at *
  have hdiv:N*2^j/2^k=N*2^i:=by
   rw[hi,bE,<-bL,dW _ (bF aG)]
  have Nl:N*2^j%2^k=0:=by
   rw[hi,bE,<-bL];exact gj _ _
  have hq:∀ out,kT (N*2^j) (E-j) false p out=N*2^i:=λout=>by
   unfold kT;rw[hK,hdiv,Nl];simp
  have uQ:∀ out,kT N E false p out=N:=λout=>by
   unfold kT;rw[hk];simp[dj]
  have lL:N*2^i≠0:=dV h0 (ev (bF aG));have ho:∀ out,mv (N*2^j) (E-j) false p out=mv N E false p out:=λout=>by
   unfold mv;rw[hq,uQ,hK,hk,re h0 i];simp only[dz,lL,h0,ff,gE,eA];rw[aqb];omega
  unfold jY jP;rw[ho,hq,uQ,hK,hk];rw[(aE:E-(j:Int)+k=E+((0:Nat):Int)-(i:Int)),LI];exact⟨rfl,rfl⟩
 .have tZ:jj (N*2^j) (E-j) p=jj N E p+j:=by unfold jj at hk ⊢;rw[B5];omega
  have hq:∀ out,kT (N*2^j) (E-j) false p out=kT N E false p out:=λout=>by
   unfold kT;rw[tZ,bE,bK (2^jj N E p),<-cW,dW _ (bF aG),bK N,apD];have:(2^j*(N%2^jj N E p)≠0)↔(N%2^jj N E p≠0):=by
    rw[dz,dz,aqe];have:=bF (n:=j) (aG:0<2);omega
   simp only[this]
  have ho:∀ out,mv (N*2^j) (E-j) false p out=mv N E false p out:=λout=>by
   unfold mv;rw[hq,tZ];congr 2;rw[eq_iff_iff];omega
  unfold jY jP;rw[ho,hq,tZ];rw[(aE:E-(j:Int)+((jj N E p+j:Nat):Int)=E+(jj N E p:Int))];exact⟨rfl,rfl⟩
def jf(d:Dy)(p:Nat)(up:Bool):Dy:=jY d.neg d.m d.e false p up
def jx(d:Dy)(p:Nat)(up:Bool):Int:=jP d.neg d.m d.e false p up
def Yi(s up:Bool)(m:Nat)(e:Int)(p:Nat)(h0:m≠0):
 jf (canon s m e) p up=jY s m e false p up/\jx (canon s m e) p up=jP s m e false p up:=by
 have hm:=Fm h0;have hq:m/2^jZ m≠0:=by have:=Em h0;omega
 have h:=acY s up (m/2^jZ m) (e+jZ m) (jZ m) p hq;rw[hm,(aE:e+(jZ m:Int)-(jZ m:Int)=e)]at h;unfold jf jx canon;rw[bu h0];exact⟨h.1.symm,h.2.symm⟩
def BV{s:Bool}{m:Nat}{e:Int}(h0:m≠0):(iq (canon s m e).m:Int)+(canon s m e).e=iq m+e/\e<=(canon s m e).e/\(canon s m e).m≠0/\iq (canon s m e).m<=iq m:=by
 have hm:=Fm h0;have hq:m/2^jZ m≠0:=by have:=Em h0;omega
 have h:=re hq (jZ m);rw[hm]at h;unfold canon;rw[bu h0];simp only;exact⟨aE,aE,hq,aE⟩
def Sg(m:Nat)(e:Int)(p:Nat):m/2^jj m e p<2^p:=by
 rw[cA (bF aG),<-bE];refine ln.1 ?_;unfold jj;omega
def acq{s:Bool}{q p:Nat}{e:Int}(h:q<=2^p)(hp:1<=p):iq (canon s q e).m<=p:=by
 by_cases h0:q=0
 .subst h0;exact cj _
 .by_cases h1:q=2^p
  .have hc:jZ q=p:=by rw[h1];have:=y7 (m:=1) rfl p;rwa[ck]at this
   unfold canon;rw[bu h0,hc,h1,Nat.div_self (bF aG)];exact bG (ln.2 (show 1<2^1 by decide)) hp
  .exact bG (BV h0).2.2.2 (ln.2 aE)
def RS(m:Nat)(e:Int)(more:Bool)(p:Nat)(out:Bool):kT m e more p out<=2^p:=by
 have:=Sg m e p;unfold kT;split<;>omega
def mR(neg:Bool)(m:Nat)(e:Int)(more:Bool)(p:Nat)(up:Bool)(hp:1<=p)(ij:p<=4096):(jY neg m e more p up).ik:=by
 unfold jY;by_cases ho:mv m e more p (neg != up)=true
 .rw [bw ho];by_cases hn:(neg != up)=true
  .rw [bw hn];exact q6
  .rw [bu hn];have xk:2<=2^p:=by
    have:=bN (n:=2) aG hp;omega
   have h0:2^p-1≠0:= aE ;have hb:iq (2^p-1)=p:=by
    obtain⟨j,rfl⟩:∃ j,p=j+1:=⟨p-1,aE⟩
    have h2:2^(j+1)=2^j*2:=bH _ _;have h3:=bF (n:=j) (aG:0<2);exact vz aE aE 
   obtain⟨h1,h2,h3,h4⟩:=BV (s:=neg) (e:=(16384:Int)-p) h0;have h5:=nv h3;exact⟨ru _ _ _,.inr ⟨aE,aE,aE,aE⟩⟩
 .rw [bu ho];refine⟨ru _ _ _,?_⟩;by_cases h0:kT m e more p (neg != up)=0
  .rw [h0];exact .inl rfl
  .have hq:=acq (s:=neg) (e:=e+(jj m e p:Int)) (RS m e more p (neg != up)) hp;obtain⟨h1,h2,h3,h4⟩:=BV (s:=neg) (e:=e+(jj m e p:Int)) h0;have h5:=nv h3;have h6:-16384<=e+(jj m e p:Int):=by unfold jj;omega
   unfold mv at ho;simp only[dz,h0,ff,gE,eA,cS]at ho;exact .inr ⟨aE,aE,aE,aE⟩
def Fg{neg:Bool}{m:Nat}{e:Int}{more:Bool}{p:Nat}{up:Bool}:jP neg m e more p up=0↔¬(mv m e more p (neg != up)=true/\(neg != up)=true):=by
 unfold jP;cases mv m e more p (neg != up)<;>cases(neg != up)<;>simp
def RU(neg:Bool)(m:Nat)(e:Int)(more:Bool)(p:Nat)(h1:jP neg m e more p false=0)(h2:jP neg m e more p true=0):
 jK (jY neg m e more p false) (jY neg m e more p true)<=0:=by
 have qS:¬mv m e more p true=true:=by
  cases neg
  .rw [Fg]at h2;simpa using h2
  .rw [Fg]at h1;simpa using h1
 have hle:kT m e more p false<=kT m e more p true:=by
  unfold kT;simp only[bS,false_and,bJ];omega
 have mN:¬mv m e more p false=true:=by
  unfold mv at qS ⊢;intro h;apply qS;simp only[ch,cS]at h ⊢;have:=tR hle;exact⟨aE,aE⟩
 have key:∀ o:Bool,¬mv m e more p o=true:=λo=>by cases o;exact mN;exact qS
 unfold jY;rw[bu (key _),bu (key _)];rw[Dm (k:=e+(jj m e p:Int)) (AI (cI _)) (AI (cI _)),CH (cI _),CH (cI _)];rw[show(e+(jj m e p:Int)-(e+(jj m e p:Int))).toNat=0 by omega];simp only[cw,cz];unfold wT;cases neg
 .simp only[bS,bJ,Bool.false_bne];split
  .decide
  .split<;>omega
 .simp only[bQ,Bool.true_bne,eO,fJ];split
  .decide
  .split<;>omega
def nk(b:Dy)(low:Int):Nat:=if low<=b.e then b.m*2^(b.e-low).toNat else b.m/2^(low-b.e).toNat
def nU(b:Dy)(low:Int):Bool:=decide (¬low<=b.e)&&decide (b.m%2^(low-b.e).toNat≠0)
def Zi{a b:Dy}(ha:a.mF)(hb:b.mF){K:Int}(h1:K<=a.e)(h2:K<=b.e):jc a b=pB (a.num K+b.num K) K:=by
 refine L8 (k:=K) (BW ha hb) (ru _ _ _) (HW (.inr h1) (.inr h2)) (Li (cI _)) ?_;rw[KG (.inr h1) (.inr h2),OC (cI _),show(K-K).toNat=0 by omega];simp
def Ks{a b:Dy}(ha:a.mF)(hb:b.mF){K:Int}(h1:K<=a.e)(h2:K<=b.e)(s:Bool)(Z:Nat)(h0:Z≠0)(hz:a.num K+b.num K=if s then -(Z:Int)else(Z:Int))(p:Nat)(up:Bool):
 jf (jc a b) p up=jY s Z K false p up/\jx (jc a b) p up=jP s Z K false p up:=by
 have:jc a b=canon s Z K:=by rw[Zi ha hb h1 h2,hz,Ir]
 rw[this];exact Yi s up Z K p h0
def J5(d:Dy)(K:Int):d.num K=if d.neg then -(d.kr K:Int)else(d.kr K:Int):=rfl
section
variable {a b:Dy} {low:Int} {p:Nat}
def PD(a0:a.m≠0)(b0:b.m≠0)(h1:low<=a.e)(h2:low<=a.iE-p-8)(h3:low<=b.e\/3<=a.iE-b.iE):
 ∃ (K:Int) (d:Nat),K<=a.e/\K<=b.e/\low=K+d/\a.kr K=a.m*2^(a.e-low).toNat*2^d/\nk b low=b.kr K/2^d/\(nU b low=decide (b.kr K%2^d≠0)) /\
  (d=0\/(p+8<=iq (a.m*2^(a.e-low).toNat)/\iq (b.kr K/2^d)+3<=iq (a.m*2^(a.e-low).toNat))):=by
 have ta:a.iE=iq a.m+a.e:=by unfold Dy.iE;rw[bu a0]
 have tb:b.iE=iq b.m+b.e:=by unfold Dy.iE;rw[bu b0]
 have hx:=re a0 (a.e-low).toNat
 by_cases h:low<=b.e
 .refine ⟨low,0,h1,h,aE,by unfold Dy.kr;simp,?_,?_,.inl rfl⟩
  .unfold nk Dy.kr;rw[bw h];simp
  .unfold nU;simp[h,dj]
 .refine ⟨b.e,(low-b.e).toNat,aE,cI _,aE,?_,?_,?_,.inr ⟨aE,?_⟩⟩
  .unfold Dy.kr;rw[bL,<-bE];congr 2;omega
  .unfold nk Dy.kr;rw[bu h];simp
  .unfold nU Dy.kr;simp[h]
  .have hm:b.kr b.e=b.m:=by unfold Dy.kr;simp
   rw[hm];have hd:iq (b.m/2^(low-b.e).toNat)<=iq b.m-(low-b.e).toNat:=by
    rw[ln,cA (bF aG),<-bE];exact ln.1 aE 
   have:=h3.resolve_left h;omega
def alY(ha:a.mF)(hb:b.mF)(a0:a.m≠0)(b0:b.m≠0)(h1:low<=a.e)(h2:low<=a.iE-p-8)(h3:low<=b.e\/3<=a.iE-b.iE)(hs:a.neg=b.neg)(up:Bool):
 jY a.neg (a.m*2^(a.e-low).toNat+nk b low) low (nU b low) p up=jf (jc a b) p up/\jP a.neg (a.m*2^(a.e-low).toNat+nk b low) low (nU b low) p up=jx (jc a b) p up:=by
 obtain⟨K,d,k1,k2,rfl,hx,hy,hl,hd⟩:=PD (p:=p) a0 b0 h1 h2 h3;generalize a.m*2^(a.e-(K+d)).toNat=x at *
 have ma:=xr a0 K;have mb:=xr b0 K;obtain⟨r1,r2⟩:=Ks ha hb k1 k2 a.neg (a.kr K+b.kr K) aE (by
  rw[J5 a,J5 b,<-hs];cases a.neg<;>simp<;>omega) p up
 rw[r1,r2,hy,hl];have e1:(a.kr K+b.kr K)/2^d=x+b.kr K/2^d:=by
  rw[hx,bK x,dG (bF aG)]
 have e2:(a.kr K+b.kr K)%2^d=b.kr K%2^d:=by
  rw[hx,bK x,dZ]
 rcases hd with rfl|⟨vV,sM⟩
 .simp only[cw,eo,dj]at e1 ⊢;rw[<-e1];have:K+((0:Nat):Int)=K:= aE ;rw[this];simp
 .have hb:p<iq ((a.kr K+b.kr K)/2^d):=by
   rw[e1];have:=tR (aE:x<=x+b.kr K/2^d);omega
  have h:=Iw (E:=K) (more:=false) a.neg up hb;rw[e1,e2,eU]at h;exact h
def anp{x N D:Nat}(hD:0<D)(h:N<=x*D):(x*D-N)/D=x-(N/D+if N%D≠0 then 1 else 0)/\((x*D-N)%D≠0↔N%D≠0)/\N/D+(if N%D≠0 then 1 else 0)<=x:=by
 have hN:=cG N D;have hr:=bM N hD;generalize N/D=q at *
 generalize N%D=r at *
 by_cases h0:r=0
 .subst h0;simp only[dz,ap1,bJ,bT]at hN ⊢;have hq:q<=x:=by
   apply ca;intro h';have:=bX D (aE:x+1<=q);rw[ct,bK q]at this;omega
  have e:x*D-N=(x-q)*D:=by rw[Nat.sub_mul,<-hN,bK q]
  rw[e,dW _ hD,gj];exact⟨rfl,aK,hq⟩
 .have hq:q+1<=x:=by
   apply ca;intro h';have:=bX D (aE:x<=q);rw[bK q]at this;omega
  have e:x*D-N=(D-r)+D*(x-(q+1)):=by
   have h1:D*(x-(q+1))=D*x-D*(q+1):=Nat.mul_sub _ _ _;have h2:D*(q+1)<=D*x:=cO _ hq;rw[bR,cz]at h1 h2;rw[bK x];omega
  have iL:D-r<D:= aE ;rw[e,fz _ _ hD,cF iL,eH,bU iL];simp only[dz,h0,ff,bQ];exact⟨aE,⟨λ_=>trivial,λ_=> aE⟩,hq⟩
def alX(ha:a.mF)(hb:b.mF)(a0:a.m≠0)(b0:b.m≠0)(h1:low<=a.e)(h2:low<=a.iE-p-8)(h3:low<=b.e\/3<=a.iE-b.iE)(hs:a.neg≠b.neg)(up:Bool):
  (a.m*2^(a.e-low).toNat<nk b low+(if nU b low=true then 1 else 0) ->
   jY (!a.neg) (nk b low+(if nU b low=true then 1 else 0)-a.m*2^(a.e-low).toNat) low false p up=jf (jc a b) p up/\jP (!a.neg) (nk b low+(if nU b low=true then 1 else 0)-a.m*2^(a.e-low).toNat) low false p up=jx (jc a b) p up) /\
  (nk b low+(if nU b low=true then 1 else 0)<=a.m*2^(a.e-low).toNat ->
   (a.m*2^(a.e-low).toNat-(nk b low+(if nU b low=true then 1 else 0))=0/\nU b low=false->jc a b=jD) /\
   (¬(a.m*2^(a.e-low).toNat-(nk b low+(if nU b low=true then 1 else 0))=0/\nU b low=false) ->
    jY a.neg (a.m*2^(a.e-low).toNat-(nk b low+(if nU b low=true then 1 else 0))) low (nU b low) p up=jf (jc a b) p up/\jP a.neg (a.m*2^(a.e-low).toNat-(nk b low+(if nU b low=true then 1 else 0))) low (nU b low) p up=jx (jc a b) p up)):=by
 obtain⟨K,d,k1,k2,rfl,hx,hy,hl,hd⟩:=PD (p:=p) a0 b0 h1 h2 h3;generalize a.m*2^(a.e-(K+d)).toNat=x at *
 have ma:=xr a0 K;have mb:=xr b0 K;have vY:a.num K+b.num K=if a.neg then(b.kr K:Int)-a.kr K else(a.kr K:Int)-b.kr K:=by
  rw[J5 a,J5 b];cases h:a.neg<;>cases h':b.neg<;>simp[h,h']at hs ⊢ <;> omega
 rw[hy,hl];rcases hd with rfl|⟨vV,sM⟩
 .
  rw[cw,cz]at hx;have e0:K+((0:Nat):Int)=K:= aE ;simp only[cw,eo,dj,dz,ap1,decide_false,bS,bJ,bT,e0,and_true];refine⟨λiL=>?_,λhle=>⟨λhz=>?_,λhz=>?_⟩⟩
  .obtain ⟨r1,r2⟩:=Ks ha hb k1 k2 (!a.neg) (b.kr K-x) aE (by
    rw[vY,hx];cases a.neg<;>simp<;>omega) p up
   exact⟨r1.symm,r2.symm⟩
  .rw [Zi ha hb k1 k2,vY,hx];have:x=b.kr K:= aE ;rw[this];cases a.neg<;>simp[pB,canon,jD]
  .obtain ⟨r1,r2⟩:=Ks ha hb k1 k2 a.neg (x-b.kr K) aE (by
    rw[vY,hx];cases a.neg<;>simp<;>omega) p up
   exact⟨r1.symm,r2.symm⟩
 .
  have hD:=bF (n:=d) (aG:0<2);have mT:x≠0:=by intro h;rw[h]at vV;simp[iq]at vV
  obtain⟨j,hj⟩:∃ j,iq x=j+3:=⟨iq x-3,aE⟩
  have mg:=sF mT;rw[hj,(aE:j+3-1=j+2),bE]at mg;have hyl:b.kr K/2^d<2^j:=ln.1 aE;have hle:b.kr K<=x*2^d:=by
   have h5:=cG (b.kr K) (2^d);have h6:=bM (b.kr K) hD;have h7:2^d*(b.kr K/2^d+1)<=2^d*x:=cO _ aE;rw[bR,cz,bK _ x]at h7;omega
  obtain⟨e1,e2,e3⟩:=anp hD hle;have hc:(if decide (b.kr K%2^d≠0)=true then 1 else 0)=(if b.kr K%2^d≠0 then 1 else 0):=by simp only[cS]
  rw[hc];have zp:p<iq (x-(b.kr K/2^d+if b.kr K%2^d≠0 then 1 else 0)):=by
   have h8:2^(j+1)<=x-(b.kr K/2^d+if b.kr K%2^d≠0 then 1 else 0):=by
    rw[bH];have h9:2^j*2^2<=x:=mg;have uH:=bF (n:=j) (aG:0<2);split<;>omega
   have:=tD.2 h8;omega
  refine⟨λiL=> aE,λ_=>⟨λhz=>?_,λ_=>?_⟩⟩
  .exfalso;rw[hz.1]at zp;simp[iq]at zp
  .obtain ⟨r1,r2⟩:=Ks ha hb k1 k2 a.neg (a.kr K-b.kr K) (by
    intro h;rw[<-hx,h,gH]at e1;rw[<-e1]at zp;simp[iq]at zp) (by
    rw[vY];cases a.neg<;>simp<;>omega) p up
   rw[r1,r2,hx];rw[<-e1]at zp ⊢;have h:=Iw (E:=K) (more:=false) a.neg up zp;rw[eU]at h;have e4:decide ((x*2^d-b.kr K)%2^d≠0)=decide (b.kr K%2^d≠0):=aqb.2 e2;rw[e4]at h;exact h
end
def jA(m:Nat)(e:Int)(p:Nat):Int:=max (e+iq m-p) (-16384)
def nZ(m:Nat)(e:Int)(more:Bool)(p:Nat)(up:Bool):Nat:=
 if jA m e p<=e then m*2^(e-jA m e p).toNat else m/2^(jA m e p-e).toNat+if(up&&(more||decide (m%2^(jA m e p-e).toNat≠0)))=true then 1 else 0
def RR{m:Nat}{e:Int}{more:Bool}{p:Nat}(up:Bool)(h0:m≠0)(hm:more=true->p<iq m)(hp:1<=p):
 (iq (nZ m e more p up):Int)+jA m e p<=16384/\jY false m e more p up=canon false (nZ m e more p up) (jA m e p)/\jP false m e more p up=0 \/
 16384<(iq (nZ m e more p up):Int)+jA m e p/\((up=true/\jY false m e more p up=jD/\jP false m e more p up=9)\/(up=false/\jY false m e more p up=canon false (2^p-1) (16384-p)/\jP false m e more p up=0)):=by
 have qS:(false != up)=up:=by cases up<;>rfl
 by_cases hU:jA m e p<=e
 .
  have hmf:more=false:=by
   cases Nn:more with
   |false=>rfl
   |true=>have:=hm Nn;unfold jA at hU;omega
  subst hmf;have hK:jj m e p=0:=by unfold jA at hU;unfold jj;omega
  have hQ:kT m e false p up=m:=by unfold kT;rw[hK];simp[dj]
  have hP:nZ m e false p up=m*2^(e-jA m e p).toNat:=by unfold nZ;rw[bw hU]
  have hb:iq (nZ m e false p up)=iq m+(e-jA m e p).toNat:=by rw[hP];exact re h0 _
  have hc:canon false (nZ m e false p up) (jA m e p)=canon false m e:=by
   rw[hP];have:=LI false m e (e-jA m e p).toNat
   rwa[(aE:e-((e-jA m e p).toNat:Int)=jA m e p)]at this
  have hO:mv m e false p up=decide (16384<(iq m:Int)+e):=by
   unfold mv;rw[hQ,hK];simp[h0]
  by_cases uc:16384<(iq m:Int)+e
  .refine .inr ⟨aE,?_⟩;unfold jY jP;rw[qS,hO,bA uc];cases up
   .exact .inr ⟨rfl,rfl,rfl⟩
   .exact .inl ⟨rfl,rfl,rfl⟩
  .refine .inl ⟨aE,?_,?_⟩
   .unfold jY;rw[qS,hO,bB uc,bu aG,hQ,hK,hc];simp
   .unfold jP;rw[qS,hO,bB uc];simp
 .have hK:jj m e p=(jA m e p-e).toNat:=by unfold jA at hU ⊢;unfold jj;omega
  have hQ:kT m e more p up=nZ m e more p up:=by
   unfold kT nZ;rw[bu hU,hK];congr 1;cases up<;>cases more<;>simp
  have heK:e+(jj m e p:Int)=jA m e p:=by rw[hK];omega
  have lL:16384<(iq (nZ m e more p up):Int)+jA m e p->nZ m e more p up≠0:=by
   intro h hz;have qt:m/2^(jA m e p-e).toNat=0:=by
    unfold nZ at hz;rw[bu hU]at hz;exact(Nat.add_eq_zero_iff.1 hz).1
   have iL:m<2^(jA m e p-e).toNat:=by
    rcases Nat.div_eq_zero_iff.1 qt with h|h
    .exact absurd h (ev (bF aG))
    .exact h
   have:=ln.2 iL;rw[hz,rq]at h;have tz:=nv h0;unfold jA at h hU this;omega
  have hO:mv m e more p up=decide (16384<(iq (nZ m e more p up):Int)+jA m e p):=by
   unfold mv;rw[hQ,show(iq (nZ m e more p up):Int)+e+(jj m e p:Int)=(iq (nZ m e more p up):Int)+jA m e p by omega];by_cases uc:16384<(iq (nZ m e more p up):Int)+jA m e p
   .simp [lL uc]
   .simp [uc]
  by_cases uc:16384<(iq (nZ m e more p up):Int)+jA m e p
  .refine .inr ⟨uc,?_⟩;unfold jY jP;rw[qS,hO,bA uc];cases up
   .exact .inr ⟨rfl,rfl,rfl⟩
   .exact .inl ⟨rfl,rfl,rfl⟩
  .refine .inl ⟨aE,?_,?_⟩
   .unfold jY;rw[qS,hO,bB uc,bu aG,hQ,heK]
   .unfold jP;rw[qS,hO,bB uc];simp
def RQ{m:Nat}{e:Int}{more:Bool}{p:Nat}{up:Bool}(h0:m≠0):iq (nZ m e more p up)<=p+1:=by
 unfold nZ;split
 .rename_i h;rw[re h0];unfold jA at h ⊢;omega
 .rename_i h;have h1:m/2^(jA m e p-e).toNat<2^p:=by
   rw[cA (bF aG),<-bE];refine ln.1 ?_;unfold jA at h ⊢;omega
  refine ln.2 ?_;rw[bH];have:0<2^p:=bF aG;split<;>omega
def nJ{m k:Nat}(h:iq m<=32*k):(ia m).length<=k:=by
 refine rE ?_;rw[oE];exact ln.1 h
def wR{m k:Nat}(h:(ia m).length<=k):iq m<=32*k:=by
 have:=wm h;rw[oE]at this;exact ln.2 this
def Si{m n:Nat}(h:iq m<=n):m/2^n=0/\m%2^n=m:=by
 have:=ln.1 h;exact⟨cF this,bU this⟩
def VP(m n:Nat):(kE (m/2^n*2^n) m != 0)=decide (m%2^n≠0):=by
 have h:=cG m (2^n);rw[bK]at h;unfold kE;by_cases h0:m%2^n=0
 .rw [bu aE,bu aE];simp[h0]
 .rw [bw aE];simp[h0]
def RX(neg:Bool)(m:Nat)(e:Int)(more:Bool)(p:Nat)(up:Bool):
 jP neg m e more p up=jP false m e more p (up != neg) /\
 (jP false m e more p (up != neg)=0->neg=true->iU (jY false m e more p (up != neg))=jY neg m e more p up) /\
 ((jP false m e more p (up != neg)≠0\/neg=false)->jY false m e more p (up != neg)=jY neg m e more p up):=by
 have qS:(false != (up != neg))=(neg != up):=by cases up<;>cases neg<;>rfl
 have hE:jP neg m e more p up=jP false m e more p (up != neg):=by unfold jP;rw[qS]
 refine⟨hE,λh hn=>?_,λh=>?_⟩
 .have h':=Fg.1 h;rw[qS]at h';have neg_canon:∀ q u,iU (canon false q u)=canon true q u:=by
   intro q u;unfold canon iU;by_cases hq:q=0
   .simp [hq]
   .rw [bu hq,bu hq];have:=Em hq;have h0:q/2^jZ q≠0:= aE ;simp[h0]
  subst hn;unfold jY;rw[qS];by_cases ho:mv m e more p (true != up)=true
  .have hu:(true != up)=false:=by
    cases hq:(true != up)with
    |false=>rfl
    |true=>exact absurd ⟨ho,hq⟩ h'
   rw[bw ho,bw ho,hu];simp only[bS,bJ];exact neg_canon _ _
  .rw [bu ho,bu ho];exact neg_canon _ _
 .rcases h with h|h
  .have h1:mv m e more p (neg != up)=true/\(neg != up)=true:=by
    by_cases q:mv m e more p (neg != up)=true/\(neg != up)=true
    .exact q
    .exact absurd (Fg.2 (by rw[qS];exact q)) h
   unfold jY;rw[qS,bw h1.1,bw h1.2,bw h1.1,bw h1.2]
  .subst h;cases up<;>rfl
def jC(a b:Dy)(p:Nat):Int:=if a.iE-b.iE<=2 then min (min a.e (a.iE-p-8)) b.e else min a.e (a.iE-p-8)
def oo(a b:Dy)(p:Nat):Nat:=a.m*2^(a.e-jC a b p).toNat
def ni(a b:Dy)(p:Nat):Nat:=nk b (jC a b p)+if(a.neg != b.neg&&nU b (jC a b p))=true then 1 else 0
def pO(a b:Dy)(p:Nat):Bool:=(a.neg != b.neg)&&decide (oo a b p<ni a b p)
def mA(a b:Dy)(p:Nat):Nat:=if a.neg=b.neg then oo a b p+ni a b p else if oo a b p<ni a b p then ni a b p-oo a b p else oo a b p-ni a b p
def nD(a b:Dy)(p:Nat):Bool:=nU b (jC a b p) && !pO a b p
def Pw(a b:Dy)(p:Nat):jC a b p<=a.e/\jC a b p<=a.iE-p-8/\(jC a b p<=b.e\/3<=a.iE-b.iE):=by
 unfold jC;split<;>omega
def He{a:Dy}(a0:a.m≠0):a.iE=iq a.m+a.e:=by unfold Dy.iE;rw[bu a0]
structure aav(a b:Dy)(p:Nat):Prop where
 lo:-17000<=jC a b p
 hi:jC a b p<=16384
 x:iq (oo a b p)<=4100
 x0:oo a b p≠0
 sh:(a.e-jC a b p).toNat<=60000
 sh2:(b.e-jC a b p).toNat<=60000
 sh3:(jC a b p-b.e).toNat<=60000
 y:iq (nk b (jC a b p))<=4100
 l:nU b (jC a b p)=true->p+8<=iq (oo a b p)/\iq (nk b (jC a b p))+3<=iq (oo a b p)
def KI{a b:Dy}{p:Nat}(ha:a.ik)(hb:b.ik)(a0:a.m≠0)(b0:b.m≠0)(ht:b.iE<=a.iE)(ij:p<=512):aav a b p:=by
 have ra:=ha.range.resolve_left a0;have rb:=hb.range.resolve_left b0;have ta:=He a0;have tb:=He b0;obtain⟨h1,h2,h3⟩:=Pw a b p;have hx:iq (oo a b p)=iq a.m+(a.e-jC a b p).toNat:=re a0 _;have A9:jC a b p=a.e\/jC a b p=a.iE-p-8\/(a.iE-b.iE<=2/\jC a b p=b.e):=by unfold jC;split<;>omega
 have hy:iq (nk b (jC a b p))<=iq (oo a b p):=by
  unfold nk;split
  .rw [re b0];omega
  .have:iq (b.m/2^(jC a b p-b.e).toNat)<=iq b.m-(jC a b p-b.e).toNat:=by
    rw[ln,cA (bF aG),<-bE];exact ln.1 aE 
   omega
 have pa:=nv a0;have pb:=nv b0;refine⟨aE,aE,aE,?_,aE,aE,aE,aE,λhl=>?_⟩
 .intro h;unfold oo at h;exact(dV a0 (ev (bF aG))) h
 .obtain ⟨K,d,k1,k2,k3,k4,k5,k6,k7⟩:=PD (p:=p) a0 b0 h1 h2 h3;rcases k7 with rfl|⟨k7,k8⟩
  .rw [k6]at hl;simp[dj]at hl
  .rw [k5];exact⟨k7,k8⟩
def PZ{a b:Dy}{p:Nat}(ha:a.ik)(hb:b.ik)(a0:a.m≠0)(b0:b.m≠0)(ht:b.iE<=a.iE)(ij:p<=512):
 iq (ni a b p)<=4101/\iq (mA a b p)<=4102/\(nD a b p=true->p<iq (mA a b p)):=by
 obtain⟨l1,l2,l3,l4,l5,l6,l7,l8,l9⟩:=KI ha hb a0 b0 ht ij;have hy:ni a b p<=nk b (jC a b p)+1:=by unfold ni;split<;>omega
 obtain⟨K,hK⟩:∃ K:Nat,K=4100:=⟨_,rfl⟩
 have g1:4101=K+1:= aE ;have g2:4102=K+2:= aE ;rw[g1,g2];rw[<-hK]at l3 l8;have hy4:nk b (jC a b p)<2^K:=ln.1 l8;have hx4:oo a b p<2^K:=ln.1 l3;have e1:(2:Nat)^(K+1)=2*2^K:=by rw[bH];omega
 have e2:(2:Nat)^(K+2)=4*2^K:=by rw[bE];omega
 generalize (2:Nat)^K=Z at *
 refine⟨ln.2 aE,ln.2 ?_,λhl=>?_⟩
 .unfold mA;split
  .omega
  .split<;>omega
 .unfold nD at hl;simp only[ch,fi]at hl;obtain⟨q1,q2⟩:=l9 hl.1;have hX:2^(iq (oo a b p)-1)<=oo a b p:=sF l4;rw[tD];have hY:nk b (jC a b p)<2^(iq (oo a b p)-3):=ln.1 aE;have e3:(2:Nat)^(iq (oo a b p)-1)=4*2^(iq (oo a b p)-3):=by
   rw[(aE:iq (oo a b p)-1=(iq (oo a b p)-3)+2),bE];omega
  have hp:(2:Nat)^p<=2^(iq (oo a b p)-3):=bN aG aE;unfold mA;split
  .omega
  .rename_i hs;unfold pO at hl;rw[bu (by
    have:=hl.2;simp[hs]at this;omega)]
   omega
def Zl{a b:Dy}{p:Nat}(ha:a.ik)(hb:b.ik)(a0:a.m≠0)(b0:b.m≠0)(up:Bool):
 (mA a b p=0/\nD a b p=false->jc a b=jD) /\
 (¬(mA a b p=0/\nD a b p=false)->jY (a.neg != pO a b p) (mA a b p) (jC a b p) (nD a b p) p up=jf (jc a b) p up/\jP (a.neg != pO a b p) (mA a b p) (jC a b p) (nD a b p) p up=jx (jc a b) p up):=by
 obtain⟨h1,h2,h3⟩:=Pw a b p;by_cases hs:a.neg=b.neg
 .have hn:(a.neg != b.neg)=false:=by rw[hs];simp
  have e1:pO a b p=false:=by unfold pO;rw[hn];rfl
  have e2:nD a b p=nU b (jC a b p):=by unfold nD;rw[e1];simp
  have e3:mA a b p=a.m*2^(a.e-jC a b p).toNat+nk b (jC a b p):=by unfold mA;rw[bw hs];unfold oo ni;rw[hn];simp
  have hx:mA a b p≠0:=by
   rw[e3];have:=dV a0 (ev (bF (n:=(a.e-jC a b p).toNat) (show 0<2 by decide)));omega
  refine⟨λh=>absurd h.1 hx,λ_=>?_⟩;rw[e1,e2,e3];have:=alY ha.canon hb.canon a0 b0 h1 h2 h3 hs up;cases hA:a.neg<;>rw[hA]at this<;>exact this
 .have hn:(a.neg != b.neg)=true:=by simpa using hs
  have eY:ni a b p=nk b (jC a b p)+if nU b (jC a b p)=true then 1 else 0:=by unfold ni;rw[hn];simp
  obtain⟨r1,r2⟩:=alX (p:=p) ha.canon hb.canon a0 b0 h1 h2 h3 hs up;rw[<-eY]at r1 r2;change oo a b p<ni a b p->_ at r1;change ni a b p<=oo a b p->_ at r2;by_cases hc:oo a b p<ni a b p
  .have e1:pO a b p=true:=by unfold pO;rw[hn,bA hc];rfl
   have e2:nD a b p=false:=by unfold nD;rw[e1];simp
   have e3:mA a b p=ni a b p-oo a b p:=by unfold mA;rw[bu hs,bw hc]
   rw[e1,e2,e3];refine⟨λh=> aE,λ_=>?_⟩;have:=r1 hc;cases hA:a.neg<;>rw[hA]at this<;>exact this
  .have e1:pO a b p=false:=by unfold pO;rw[hn,bB hc];rfl
   have e2:nD a b p=nU b (jC a b p):=by unfold nD;rw[e1];simp
   have e3:mA a b p=oo a b p-ni a b p:=by unfold mA;rw[bu hs,bu hc]
   rw[e1,e2,e3];obtain⟨q1,q2⟩:=r2 aE;refine⟨q1,λh=>?_⟩;have:=q2 h;cases hA:a.neg<;>rw[hA]at this<;>exact this
end Go.Proofs.YtkjkcjhacddojaaGreatDoor.Fp
namespace Go.Proofs.YtkjkcjhacddojaaGreatDoor
open Go.RowKit Fp
def abA(a b:Nat):iq (a*b)<=iq a+iq b:=by
 rw[ln,bE];exact gX (pK a) (pK b)
def alu(a:Dy)(A:Option Addr)(c:Nat)(w:World)(h:Sl w A c (ia a.m))(ha:a.ik):
 Calls prog 96 #[DV a A c] w λe w'=>e = .returned (.bool true)/\iJ w w':=
 Ko a.neg A c (ia a.m) a.e w true h (by have:=ha.exp;omega) (by have:=ha.exp;omega) (by simp[ha.vI])
def alp(a:Dy)(A:Option Addr)(c:Nat)(w:World)(h:Sl w A c (ia a.m)):
 Calls prog 53 #[DV a A c] w λe w'=>e = .returned (.int .i64 a.jb)/\iJ w w':=by
 have:=alo a.neg A c (ia a.m) a.e w h (wJ _);rw[kf]at this;exact this
def als(a:Dy)(A:Option Addr)(c:Nat)(w:World)(h:Sl w A c (ia a.m))(ha:vt a):
 Calls prog 171 #[DV a A c] w λe w'=>e = .returned (.int .i64 a.iE)/\iJ w w':=by
 have:=alr a.neg A c (ia a.m) a.e w h (wJ _) (by have:=ha.len;omega) (by have:=ha.lo;omega) (by have:=ha.hi;omega);rw[kf]at this;exact this
def acE(d:Dy)(A:Option Addr)(c:Nat)(w:World)(hs:Sl w A c (ia d.m))(hl:(ia d.m).length<=100000000)(lv:-10000000<=d.e)(kQ:d.e<=10000000):
 Calls prog 254 #[DV d A c] w (yY w (vF d) (vG d)):=by
 by_cases hd:oB d
 .rw [Ry hd,Rv hd];exact Ru d A c w hs hl lv kQ hd
 .rw [acH hd,acG hd];exact acF d A c w hs hl lv kQ hd
def Rp(s:Bool)(m:Nat)(e:Int)(A:Option Addr)(c:Nat)(w:World)(hs:Sl w A c (ia m))(hl:(ia m).length<=256)(lv:-1000000<=e)(kQ:e<=1000000)(rU:Tb w):
 Calls prog 255 #[.bool s,.slice A (ia m).length c,.int .i64 e] w (uz w (canon s m e)):=by
 have:=IH s A c (ia m) e w hs aE (by have:=pq (ia m);unfold mC at this;omega) lv kQ rU;rw[kf]at this;exact this
def Wy{m:Nat}(h:m=0):(((ia m).length:Int)==0)=true:=by rw[h,nT];rfl
def ajK{m:Nat}(h:m≠0):(((ia m).length:Int)==0)=false:=by
 refine bj ?_;have:ia m≠[]:=λe=>h (VD.1 e)
 have:=eR.2 this;omega
def apf(a b:Dy)(A B:Option Addr)(c d:Nat)(w:World)(_hs:Sl w A c (ia a.m))(hr:Sl w B d (ia b.m))(rU:Tb w)(hb:b.ik)(h0:a.m=0):
 Calls prog 303 #[DV a A c,DV b B d] w (yY w (vF (jc a b)) (vG (jc a b))):=by
 have D6:jc a b=b:=by unfold jc;rw[bw h0]
 rw[D6,Ry hb.range,Rv hb.range];have hl:=hb.len;obtain⟨lv,kQ⟩:=hb.exp;have HC:=aqG (λw (h:Sl w B d (ia b.m)) (ht:Tb w)=>Rp b.neg b.m b.e B d w h hl aE aE ht);rw[hb.canon.Is]at HC;have n0:=Wy h0;clear D6 h0;have hE:=((iJ.alloc w (.cells #[.bool b.neg,.slice B ((ia b.m).length) d,.int .i64 b.e] 39)).trans (iJ.alloc (w.alloc (.cells #[.bool b.neg,.slice B ((ia b.m).length) d,.int .i64 b.e] 39)) (.cells #[.bool b.neg,.slice B ((ia b.m).length) d,.int .i64 b.e] 39))).trans (iJ.alloc ((w.alloc (.cells #[.bool b.neg,.slice B ((ia b.m).length) d,.int .i64 b.e] 39)).alloc (.cells #[.bool b.neg,.slice B ((ia b.m).length) d,.int .i64 b.e] 39)) (.cells #[.bool false,.slice none 0 0,.int .i64 0] 39));have b1:=((jL.sW (W:=w) (g:=w.heap.size) aK b.neg B ((ia b.m).length) d b.e).alloc (.cells #[.bool b.neg,.slice B ((ia b.m).length) d,.int .i64 b.e] 39)).alloc (.cells #[.bool false,.slice none 0 0,.int .i64 0] 39);have b2:=(jL.sW (W:=(w.alloc (.cells #[.bool b.neg,.slice B ((ia b.m).length) d,.int .i64 b.e] 39))) (g:=w.heap.size+1) aK b.neg B ((ia b.m).length) d b.e).alloc (.cells #[.bool false,.slice none 0 0,.int .i64 0] 39);have b3:=jL.sW (W:=((w.alloc (.cells #[.bool b.neg,.slice B ((ia b.m).length) d,.int .i64 b.e] 39)).alloc (.cells #[.bool b.neg,.slice B ((ia b.m).length) d,.int .i64 b.e] 39))) (g:=w.heap.size+2) aK false none 0 0 0;replace hr:=hr.below hE;replace rU:=rU.below hE;go_enter func303,ntmps303;go_wp2_with fail
 (with_reducible refine(HC.out _ hr rU).mono ?_)
 rintro r w1 ⟨A_h4,c_h4,rfl,h4,hb⟩;replace hE:=hE.trans hb;replace hr:=hr.below hb;replace rU:=rU.below hb;replace b1:=b1.ext hb;replace b2:=b2.ext hb;replace b3:=b3.ext hb;clear hb;have apA:=b3.c0;have yb30:=b3.fr 0;have apB:=b3.c1;have yb31:=b3.fr 1;have apC:=b3.c2;have yb32:=b3.fr 2;go_wp2;exact Dw (d:=b) rfl rfl rfl rfl (b3.set _ _ _ _ _) rfl (b3.tK h4 _ _ _ _ _) (jL.sY hE aE _ _ _ _ _)
def adP(a:Dy)(A:Option Addr)(c:Nat)(w:World)(h:Sl w A c (ia a.m))(ha:a.ik):
 Calls prog 216 #[DV a A c] w λe w'=>e = .returned (.int .i64 a.iE)/\iJ w w':=by
 have:=L7 a.neg A c (ia a.m) a.e w h ha.vI;rw[kf]at this;exact this
set_option maxRecDepth 100000 in
set_option maxHeartbeats 8000000 in
def adN(a : Dy)(A : Option Addr)(c : Nat)(w : World)(hs : Sl w A c (ia a.m))(ha : a.ik):
    Calls prog 166 #[DV a A c] w (uz w (iU a)) := by
  have HV := aqG (λw (h : Sl w A c (ia a.m)) => Sx a A c w h ha);have hl := ha.len;by_cases h0 : a.m=0
  . have hz : Hid (iU a=jD) := by
      show iU a=jD;obtain⟨s,m,e⟩ := a;rcases ha.canon with⟨h1,h2,h3⟩|h1
      . simp only at h1 h2 h3;subst h1 h2 h3;rfl
      . simp only at h0 h1;omega
    have n0 := Wy h0;clear h0;have hE := (iJ.alloc w (.cells #[.bool a.neg,.slice A ((ia a.m).length) c,.int .i64 a.e] 39)).trans (iJ.alloc (w.alloc (.cells #[.bool a.neg,.slice A ((ia a.m).length) c,.int .i64 a.e] 39)) (.cells #[.bool false,.slice none 0 0,.int .i64 0] 39));have b1 := (jL.sW (W := w) (g := w.heap.size) aK a.neg A ((ia a.m).length) c a.e).alloc (.cells #[.bool false,.slice none 0 0,.int .i64 0] 39);have b2 := jL.sW (W := (w.alloc (.cells #[.bool a.neg,.slice A ((ia a.m).length) c,.int .i64 a.e] 39))) (g := w.heap.size+1) aK false none 0 0 0;replace hs := hs.below hE;go_enter func166,ntmps166;go_wp2_with fail
    (with_reducible refine(HV.out _ hs).mono ?_)
    rintro r w1 ⟨rfl,hb⟩;replace hE := hE.trans hb;replace hs := hs.below hb;replace b1 := b1.ext hb;replace b2 := b2.ext hb;clear hb;have K5 := b1.c0;have K6 := b1.c1;have K7 := b1.c2;have apx := b2.c0;have yb20 := b2.fr 0;have apy := b2.c1;have yb21 := b2.fr 1;have apz := b2.c2;have yb22 := b2.fr 2;go_wp2;rw[hz.out];exact tg (d := jD) rfl rfl rfl (b2.set _ _ _ _ _) (by rw[show jD.m=0 from rfl,nT];rfl) (by rw[show jD.m=0 from rfl,nT];exact Sl.nil _) (jL.sY hE aE _ _ _ _ _)
  . have n0 := ajK h0
    have HN := aqG (show iU a=⟨!a.neg,a.m,a.e⟩by unfold iU;simp[h0]);have HC := aqG (λw (h : Sl w A c (ia a.m)) => LM A c (ia a.m) w h aE);clear h0;have hE := (iJ.alloc w (.cells #[.bool a.neg,.slice A ((ia a.m).length) c,.int .i64 a.e] 39)).trans (iJ.alloc (w.alloc (.cells #[.bool a.neg,.slice A ((ia a.m).length) c,.int .i64 a.e] 39)) (.cells #[.bool false,.slice none 0 0,.int .i64 0] 39));have b1 := (jL.sW (W := w) (g := w.heap.size) aK a.neg A ((ia a.m).length) c a.e).alloc (.cells #[.bool false,.slice none 0 0,.int .i64 0] 39);have b2 := jL.sW (W := (w.alloc (.cells #[.bool a.neg,.slice A ((ia a.m).length) c,.int .i64 a.e] 39))) (g := w.heap.size+1) aK false none 0 0 0;replace hs := hs.below hE;go_enter func166,ntmps166;go_wp2_with fail
    (with_reducible refine(HV.out _ hs).mono ?_)
    rintro r w1 ⟨rfl,hb⟩;replace hE := hE.trans hb;replace hs := hs.below hb;replace b1 := b1.ext hb;replace b2 := b2.ext hb;clear hb;have K5 := b1.c0;have K6 := b1.c1;have K7 := b1.c2;clear K5 K6 K7;have K5 := b1.c0;have K6 := b1.c1;have K7 := b1.c2;go_wp2_with fail;clear K5 K6 K7;replace hs := hs.drew;replace b1 := b1.drew;replace b2 := b2.drew;replace hE := hE.trans (iJ.drew _);go_region_held3 (λw' => w'.cell? ⟨w.heap.size,0,none⟩=some (.bool a.neg)/\w'.cell? ⟨w.heap.size,1,none⟩=some (.slice A ((ia a.m).length) c)/\w'.cell? ⟨w.heap.size,2,none⟩=some (.int .i64 a.e))
      (first|with_reducible exact⟨(b1).c0,(b1).c1,(b1).c2⟩|with_reducible exact⟨(b1.ext pE).c0,(b1.ext pE).c1,(b1.ext pE).c2⟩|with_reducible exact⟨((b1.ext pE).Mr (g' := w.heap.size+1) aE _ _ _).c0,((b1.ext pE).Mr (g' := w.heap.size+1) aE _ _ _).c1,((b1.ext pE).Mr (g' := w.heap.size+1) aE _ _ _).c2⟩)
      (first
        | (go_at_call 244
           (with_reducible refine(HC.out _ hs).mono ?_)
           rintro r wx0 ⟨A_h4,c_h4,rfl,h4,pE⟩;have bz := b2.ext pE;have z0 := bz.c0;have z1 := bz.c1;have z2 := bz.c2;have y0 := bz.fr 0;have y1 := bz.fr 1;have y2 := bz.fr 2))
    replace hE := hE.trans pE;replace hs := hs.below pE;replace b1 := b1.ext pE;replace b2 := b2.ext pE;go_wp2;rw[HN.out];exact tg (d := ⟨!a.neg,a.m,a.e⟩) rfl rfl rfl (bz.set _ _ _ _ _) rfl (bz.tK h4 _ _ _ _ _) (jL.sY hE aE _ _ _ _ _)
open Pu
section
variable {f:FuncId} {L M:List Nat} {ko:E}
def GH(hk:iK L)(hc:∀ (vs:Array Value) (w:World),(callFunc f vs).run prog w = .ok (.enter f vs) w)
 {R:Option Addr->Nat->World->Ending->World->Prop} (H:∀ A c w,Sl w A c L->Tb w->Calls prog f #[.slice A L.length c] w (R A c w))
 (hR:∀ (A:Option Addr) (c:Nat) (B:Nat->Prop) w e w',Sl w A c L->(∀ b,B b->b<w.heap.size/\pt w b)->R A c w e w'->∃ v,e = .returned v/\Below w.heap.size w w'/\iN B (λ_=>True) w' ko v):gZ f [ic L] ko:=by
 refine⟨hc,λw B vs hK hB hr=>?_⟩;obtain⟨v1,vs,rfl,h1,hr⟩:=hr.mI;obtain rfl:=hr.qm;obtain⟨A,c,rfl,s1⟩:=vd hk h1;exact(H A c w s1 hK).mono λe w' h=>hR A c B w e w' s1 hB h
def GI(hk:iK L){n:Int}(hc:∀ (vs:Array Value) (w:World),(callFunc f vs).run prog w = .ok (.enter f vs) w)
 {R:Option Addr->Nat->World->Ending->World->Prop} (H:∀ A c w,Sl w A c L->Tb w->Calls prog f #[.slice A L.length c,.int .i64 n] w (R A c w))
 (hR:∀ (A:Option Addr) (c:Nat) (B:Nat->Prop) w e w',Sl w A c L->(∀ b,B b->b<w.heap.size/\pt w b)->R A c w e w'->∃ v,e = .returned v/\Below w.heap.size w w'/\iN B (λ_=>True) w' ko v):gZ f [ic L,iP n] ko:=by
 refine⟨hc,λw B vs hK hB hr=>?_⟩;obtain⟨v1,vs,rfl,h1,hr⟩:=hr.mI;obtain⟨v2,vs,rfl,h2,hr⟩:=hr.mI;obtain rfl:=hr.qm;obtain rfl:=iN.kW h2;obtain⟨A,c,rfl,s1⟩:=vd hk h1;exact(H A c w s1 hK).mono λe w' h=>hR A c B w e w' s1 hB h
def Bs(hk:iK L)(hm:iK M)(hc:∀ (vs:Array Value) (w:World),(callFunc f vs).run prog w = .ok (.enter f vs) w)
 {R:World->Ending->World->Prop} (H:∀ A c B d w,Sl w A c L->Sl w B d M->Tb w->Calls prog f #[.slice A L.length c,.slice B M.length d] w (R w))
 (hR:∀ (B:Nat->Prop) w e w',(∀ b,B b->b<w.heap.size/\pt w b)->R w e w'->∃ v,e = .returned v/\Below w.heap.size w w'/\iN B (λ_=>True) w' ko v):gZ f [ic L,ic M] ko:=by
 refine⟨hc,λw B vs hK hB hr=>?_⟩;obtain⟨v1,vs,rfl,h1,hr⟩:=hr.mI;obtain⟨v2,vs,rfl,h2,hr⟩:=hr.mI;obtain rfl:=hr.qm;obtain⟨A,c,rfl,s1⟩:=vd hk h1;obtain⟨A',d,rfl,s2⟩:=vd hm h2;exact(H A c A' d w s1 s2 hK).mono λe w' h=>hR B w e w' hB h
end
def GZ{L:List Nat}{n:Int}(B:Nat->Prop)(w:World)(e:Ending)(w':World)(hB:∀ b,B b->b<w.heap.size/\pt w b)(h:Dd w L n e w'):∃ v,e = .returned v/\Below w.heap.size w w'/\iN B (λ_=>True) w' (.iC [ic L,iP n]) v:=
 let⟨_,_,h1,h2,h3⟩:=h
 ⟨_,h1,h3,kD.iC (.cons (yO hB h3 h2) (.cons (.v _) (.nil _ _ _)))⟩
def rl{L:List Nat}(B:Nat->Prop)(w:World)(e:Ending)(w':World)(hB:∀ b,B b->b<w.heap.size/\pt w b)(h:tN w L e w'):∃ v,e = .returned v/\Below w.heap.size w w'/\iN B (λ_=>True) w' (ic L) v:=
 let⟨_,_,h1,h2,h3⟩:=h
 ⟨_,h1,h3,yO hB h3 h2⟩
def uj(L:List Nat)(hk:iK L):gZ 274 [ic L] (ic (ix L)):=
 GH hk call274 (λA c w h _=>uZ A c L w h) λA c B w e w' h hB ⟨h1,h2⟩=>by subst h2;exact⟨_,h1,Below.refl _ _,yO hB (Below.refl _ _) h.ur⟩
def Wh(L:List Nat)(hk:iK L)(hl:(ix L).length<=256):gZ 272 [ic L] (.iC [ic (ix L),iP 0]):=
 GH hk call272 (λA c w h _=>Gs A c L w h hl) λA c B w e w' h hB r=>GZ B w e w' hB r
def aio(L:List Nat)(hk:iK L)(hl:L.length<=100000):gZ 294 [ic L] (iP (iq (val L))):=
 GH hk call294 (λA c w h _=>Wg A c L w h aE) λA c B w e w' h hB ⟨h1,h2⟩=>by subst h2;exact⟨_,h1,Below.refl _ _,.v _⟩
def Oo(L M:List Nat)(hk:iK L)(hm:iK M)(hl:L.length<=100000)(nR:M.length<=100000):gZ 220 [ic L,ic M] (iP (kE (val L) (val M))):=
 Bs hk hm call220 (λA c B d w h k _=>JX A B c d L M w h k aE aE) rv
def Wl(m n:Nat)(hl:(ia m).length<=256)(hn:n<=65536)(hf:(ia (m*2^n)).length<=256):gZ 219 [ic (ia m),iP (n:Int)] (.iC [ic (ia (m*2^n)),iP 0]):=
 GI (kR m) call219 (λA c w h _=>Wk A c (ia m) n w h hl hn (by rw[kf];exact hf)) λA c B w e w' h hB r=>by rw[kf]at r;exact GZ B w e w' hB r
def Ov(m n:Nat)(hl:(ia m).length<=256)(hn:n<=65536):gZ 301 [ic (ia m),iP (n:Int)] (.iC [ic (ia (m/2^n)),iP 0]):=
 GI (kR m) call301 (λA c w h _=>Wn A c (ia m) n w h hl hn) λA c B w e w' h hB r=>by rw[kf]at r;exact GZ B w e w' hB r
def JW(m n:Nat)(h1:(ia m).length<=256)(h2:(ia n).length<=256)(hf:(ia (m+n)).length<=256):gZ 321 [ic (ia m),ic (ia n)] (.iC [ic (ia (m+n)),iP 0]):=by
 refine Bs (kR m) (kR n) call321 (λA c B d w h k _=>ain A B c d (ia m) (ia n) w h k h1 h2 (by rw[kf,kf];exact hf)) ?_;rw[kf,kf];exact GZ
def Gu(m n:Nat)(h1:(ia m).length<=256)(h2:(ia n).length<=256)(hf:n<=m):gZ 322 [ic (ia m),ic (ia n)] (.iC [ic (ia (m-n)),iP 0]):=by
 refine Bs (kR m) (kR n) call322 (λA c B d w h k _=>aiz A B c d (ia m) (ia n) w h k h1 h2 (by rw[kf,kf];exact hf)) ?_;rw[kf,kf];exact GZ
def sU(m:Nat)(hl:(ia m).length<=100000):gZ 294 [ic (ia m)] (iP (iq m)):=by
 have:=aio (ia m) (kR m) hl;rwa[kf]at this
def Ad(m n:Nat)(hl:(ia m).length<=100000)(nR:(ia n).length<=100000):gZ 220 [ic (ia m),ic (ia n)] (iP (kE m n)):=by
 have:=Oo (ia m) (ia n) (kR m) (kR n) hl nR;rwa[kf,kf]at this
def xU(a:Dy)(ha:a.ik):gZ 166 [ie a] (ie (iU a)):=yI call166 (λA c w h _=>adN a A c w h ha) rd
def pj(a:Dy)(ha:a.ik):gZ 216 [ie a] (iP a.iE):=yI call216 (λA c w h _=>adP a A c w h ha) rv
def BZ(s:Bool)(m:Nat)(e:Int)(hl:(ia m).length<=256)(lv:-32768<=e)(kQ:e<=32768)(hd:oB (canon s m e)):gZ 362 [bP s,ic (ia m),iP e] (.iC [ie (canon s m e),iP 0]):=by
 refine⟨call362,λw B vs hK hB hr=>?_⟩;obtain⟨v1,vs,rfl,h1,hr⟩:=hr.mI;obtain⟨v2,vs,rfl,h2,hr⟩:=hr.mI;obtain⟨v3,vs,rfl,h3,hr⟩:=hr.mI;obtain rfl:=hr.qm;obtain rfl:=iN.kW h1;obtain rfl:=iN.kW h3;obtain⟨A,c,rfl,s1⟩:=vd (kR m) h2;have:=ah9 s A c (ia m) e w s1 hl lv kQ hK (by rw[kf];exact hd);rw[kf]at this;exact this.mono λe w' h=>Pk B w e w' hB h
def sE:E.le (.sl false 1 1 λi j=>[E.v (.int .u32 1)].getD (i*1+j) (.v (.bool false))) (ic (ia 1)):=by
 have e1:ia 1=[1]:=by rw[Ab aG,show 1/4294967296=0 by decide,nT]
 rw[e1];refine .sl λi j hi hj=>?_
 obtain rfl:i=0:= aE ;obtain rfl:j=0:= aE ;exact⟨.refl _,rfl⟩
def jq(d:Dy):List E:=[bP d.neg,ic (ia d.m),iP d.e]
def nP(l:List Dy):E:=.sl true l.length 3 λi j=>(jq (l.getD i jD)).getD j .any
def L9(a:Dy):E.le (.sl true 1 3 λi j=>[bP a.neg,ic (ia a.m),iP a.e].getD (i*3+j) (.v (.bool false))) (nP [a]):=.sl λi j hi hj=>by
 obtain rfl:i=0:= aE ;rcases j with _|_|_|j
 .exact ⟨.refl _,rfl⟩
 .exact ⟨.refl _,rfl⟩
 .exact ⟨.refl _,rfl⟩
 .omega
def wV(a b:Dy):E.le (.sl true 2 3 λi j=>[bP a.neg,ic (ia a.m),iP a.e,bP b.neg,ic (ia b.m),iP b.e].getD (i*3+j) (.v (.bool false))) (nP [a,b]):=.sl λi j hi hj=>by
 obtain rfl|rfl:i=0\/i=1:= aE 
 all_goals
  rcases j with _|_|_|j
  .exact ⟨.refl _,rfl⟩
  .exact ⟨.refl _,rfl⟩
  .exact ⟨.refl _,rfl⟩
  .omega
def nC{n:Nat}(h:n≠0):((n:Int)==0)=false:= aS 
def rF{n:Nat}(h:n=0):((n:Int)==0)=true:=by subst h;rfl
def CE{n:Nat}(h:n=0):((n:Int) != 0)=false:=by subst h;rfl
def Gt{n:Nat}(h:n≠0):((n:Int) != 0)=true:= aS 
def rk{m:Nat}:(ia m).length=0↔m=0:=by rw[aqf,VD]
def ql{m:Nat}(h:m≠0):(ia m).length≠0:=λq=>h (rk.1 q)
def Fp.Dy.ik.ia{d:Dy}(h:d.ik):(ia d.m).length<=256:=by have:=h.len;omega
end Go.Proofs.YtkjkcjhacddojaaGreatDoor
namespace Go.Proofs.YtkjkcjhacddojaaGreatDoor.Fp
structure Iv where
 lo:Dy
 hi:Dy
 all:Bool
def iu:Iv:=⟨jD,jD,true⟩
def Iv.ik(x:Iv):Prop:=(x.all=true/\x.lo=jD/\x.hi=jD)\/(x.all=false/\x.lo.ik/\x.hi.ik/\jK x.lo x.hi<=0)
def mD:iu.ik:=.inl ⟨rfl,rfl,rfl⟩
def kX(lo:Dy)(e:Int)(hi:Dy)(f:Int):Iv:=if e≠0\/f≠0 then iu else⟨lo,hi,false⟩
def lg(a b:Dy):Dy:=canon (a.neg != b.neg) (a.m*b.m) (a.e+b.e)
def pM(x:Iv):Iv:=if x.all then iu else⟨iU x.hi,iU x.lo,false⟩
def kI(x y:Iv)(p:Nat):Iv:=
 if x.all||y.all then iu else kX (jf (jc x.lo y.lo) p false) (jx (jc x.lo y.lo) p false) (jf (jc x.hi y.hi) p true) (jx (jc x.hi y.hi) p true)
def vh(x y:Iv)(p:Nat):Iv:=kI x (pM y) p
def acL{x y:Int}:wT x y<=0↔x<=y:=by
 unfold wT;split
 .constructor<;>intro<;>omega
 .split<;>constructor<;>intro<;>omega
def oV{a b:Dy}{k:Int}(ha:oq a k)(hb:oq b k):jK a b<=0↔a.num k<=b.num k:=by rw[Dm ha hb,acL]
def le_trans{a b c:Dy}(h1:jK a b<=0)(h2:jK b c<=0):jK a c<=0:=by
 obtain⟨k,ka,kb,kc⟩:∃ k:Int,k<=a.e/\k<=b.e/\k<=c.e:=⟨min a.e (min b.e c.e),aE,aE,aE⟩
 rw[oV (.inr ka) (.inr kb)]at h1;rw[oV (.inr kb) (.inr kc)]at h2;rw[oV (.inr ka) (.inr kc)];omega
def z8(a:Dy):jK a a<=0:=by rw[oV (k:=a.e) (.inr (cI _)) (.inr (cI _))];exact cI _
def ahu(a b:Dy):jK a b<=0\/jK b a<=0:=by
 obtain⟨k,ka,kb⟩:∃ k:Int,k<=a.e/\k<=b.e:=⟨min a.e b.e,aE,aE⟩
 rw[oV (.inr ka) (.inr kb),oV (.inr kb) (.inr ka)];omega
def aiJ{a b:Dy}(h:jK a b<=0):jK (iU b) (iU a)<=0:=by
 obtain⟨k,ka,kb⟩:∃ k:Int,k<=a.e/\k<=b.e:=⟨min a.e b.e,aE,aE⟩
 rw[oV (.inr ka) (.inr kb)]at h;rw[oV (k:=k) (E5 (.inr kb)) (E5 (.inr ka)),Gx,Gx];omega
def anw{a b c d:Dy}(h1:jK a b<=0)(h2:jK c d<=0):jK (jc a c) (jc b d)<=0:=by
 obtain⟨k,ka,kb,kc,kd⟩:∃ k:Int,k<=a.e/\k<=b.e/\k<=c.e/\k<=d.e:=⟨min (min a.e b.e) (min c.e d.e),aE,aE,aE,aE⟩
 rw[oV (.inr ka) (.inr kb)]at h1;rw[oV (.inr kc) (.inr kd)]at h2;rw[oV (k:=k) (HW (.inr ka) (.inr kc)) (HW (.inr kb) (.inr kd)),KG (.inr ka) (.inr kc),KG (.inr kb) (.inr kd)];omega
def Ix(m:Nat)(e:Int)(p:Nat):
 kT m e false p false*2^jj m e p<=m/\m<=kT m e false p true*2^jj m e p:=by
 have h:=cG m (2^jj m e p);have hr:=bM m (bF (n:=jj m e p) (aG:0<2));unfold kT;simp only[bS,false_and,bJ,bT,false_or,true_and];rw[bK];generalize m/2^jj m e p=q at *
 generalize 2^jj m e p=P at *
 refine⟨aE,?_⟩;rw[ct,bK q];split
 .omega
 .omega
def LH{s:Bool}{m n:Nat}{e f K:Int}(h1:K<=e)(h2:K<=f)(h:m*2^(e-K).toNat<=n*2^(f-K).toNat):
 (s=false->jK (canon s m e) (canon s n f)<=0)/\(s=true->jK (canon s n f) (canon s m e)<=0):=by
 constructor
 .rintro rfl;rw[oV (AI h1) (AI h2),WJ h1,WJ h2]
  exact_mod_cast h
 .rintro rfl;rw[oV (AI h2) (AI h1),CH h1,CH h2];simp only[bQ];omega
def RW(neg:Bool)(m:Nat)(e:Int)(p:Nat)(up:Bool)(he:jP neg m e false p up=0)(_hp:1<=p):
 (up=true->jK (canon neg m e) (jY neg m e false p up)<=0)/\(up=false->jK (jY neg m e false p up) (canon neg m e)<=0):=by
 rw[Fg]at he;obtain⟨c1,c2⟩:=Ix m e p;have e1:(e-e).toNat=0:= aE ;have e2:(e+(jj m e p:Int)-e).toNat=jj m e p:= aE ;have hk:e<=e+(jj m e p:Int):= aE ;have A:=λs:Bool=>LH (s:=s) (m:=kT m e false p false) (n:=m) (e:=e+jj m e p) (f:=e) (K:=e) hk (cI _) (by rw[e1,e2];simpa using c1)
 have B:=λs:Bool=>LH (s:=s) (m:=m) (n:=kT m e false p true) (e:=e) (f:=e+jj m e p) (K:=e) (cI _) hk (by rw[e1,e2];simpa using c2)
 unfold jY;by_cases ho:mv m e false p (neg != up)=true
 .have hn:¬(neg != up)=true:=λh=>he ⟨ho,h⟩
  rw[bw ho,bu hn];have UA:neg=up:=by cases neg<;>cases up<;>simp at hn ⊢
  have kg:(neg != up)=false:=by rw[UA];simp
  rw[kg]at ho;unfold mv at ho;simp only[ch,cS]at ho;obtain⟨o1,o2⟩:=ho;have hq:=sF o1;have pX:=nv o1;obtain⟨K,k1,k2⟩:∃ K:Int,K<=e/\K<=16384-p:=⟨min e (16384-p),aE,aE⟩
  have C:(2^p-1)*2^((16384:Int)-p-K).toNat<=m*2^(e-K).toNat:=by
   have h1:2^(iq (kT m e false p false)-1)*2^jj m e p<=m:=bG (bX _ hq) c1;have h2:=bX (2^(e-K).toNat) h1;rw[<-bE,<-bE]at h2;refine bG (bX _ (ey _ _)) (bG ?_ h2);rw[<-bE];exact bN aG aE 
  have D:=LH (s:=neg) k2 k1 C;subst UA;cases neg
  .exact ⟨λh=>absurd h aG,λ_=>D.1 rfl⟩
  .exact ⟨λ_=>D.2 rfl,λh=>absurd h aG⟩
 .rw [bu ho];cases neg<;>cases up
  .exact ⟨λh=>absurd h aG,λ_=>(A false).1 rfl⟩
  .exact ⟨λ_=>(B false).1 rfl,λh=>absurd h aG⟩
  .exact ⟨λh=>absurd h aG,λ_=>(B true).2 rfl⟩
  .exact ⟨λ_=>(A true).2 rfl,λh=>absurd h aG⟩
def Yj{d:Dy}(hd:d.mF)(p:Nat)(hp:1<=p):
 (jx d p true=0->jK d (jf d p true)<=0)/\(jx d p false=0->jK (jf d p false) d<=0):=by
 have h:=hd.Is;constructor
 .intro he;have:=(RW d.neg d.m d.e p true he hp).1 rfl;rwa[h]at this
 .intro he;have:=(RW d.neg d.m d.e p false he hp).2 rfl;rwa[h]at this
def qG{x y:Iv}(hx:x.ik)(hy:y.ik){p:Nat}(hp:1<=p)(ij:p<=4096):(kI x y p).ik:=by
 unfold kI;rcases hx with⟨h,_⟩|⟨h1,h2,h3,h4⟩
 .rw [h];exact mD
 .rcases hy with⟨h,_⟩|⟨k1,k2,k3,k4⟩
  .rw [h,h1];exact mD
  .rw [h1,k1];simp only[apE,bS,bJ];unfold kX;by_cases he:jx (jc x.lo y.lo) p false≠0\/jx (jc x.hi y.hi) p true≠0
   .rw [bw he];exact mD
   .rw [bu he];have e1:jx (jc x.lo y.lo) p false=0:= aE ;have e2:jx (jc x.hi y.hi) p true=0:= aE ;refine .inr ⟨rfl,mR _ _ _ _ _ _ hp ij,mR _ _ _ _ _ _ hp ij,?_⟩;exact le_trans ((Yj (BW h2.canon k2.canon) p hp).2 e1) (le_trans (anw h4 k4) ((Yj (BW h3.canon k3.canon) p hp).1 e2))
def yF{x:Iv}(hx:x.ik):(pM x).ik:=by
 unfold pM;rcases hx with⟨h,_⟩|⟨h1,h2,h3,h4⟩
 .rw [bw h];exact mD
 .rw [h1];exact .inr ⟨rfl,qA h3,qA h2,aiJ h4⟩
def jd(a b:Dy):Dy:=if jK b a<0 then b else a
def ja(a b:Dy):Dy:=if 0<jK b a then b else a
def Gj(a b:Dy):jK (jd a b) a<=0:=by
 unfold jd;split
 .omega
 .exact z8 a
def V5(a b:Dy):jK (jd a b) b<=0:=by
 unfold jd;split
 .exact z8 b
 .rcases ahu a b with h|h
  .exact h
  .have h0:jK b a=0:= aE ;obtain⟨k,ka,kb⟩:∃ k:Int,k<=a.e/\k<=b.e:=⟨min a.e b.e,aE,aE⟩
   rw[Dm (k:=k) (.inr kb) (.inr ka)]at h0;rw[oV (.inr ka) (.inr kb)];unfold wT at h0;split at h0
   .omega
   .split at h0<;>omega
def xS(a b:Dy):jK a b = -jK b a:=by
 obtain⟨k,ka,kb⟩:∃ k:Int,k<=a.e/\k<=b.e:=⟨min a.e b.e,aE,aE⟩
 rw[Dm (k:=k) (.inr ka) (.inr kb),Dm (k:=k) (.inr kb) (.inr ka)];unfold wT;split<;>split<;>(try split)<;>omega
def Ej(a b:Dy):jK a (ja a b)<=0:=by
 unfold ja;split
 .rw [xS];omega
 .exact z8 a
def V2(a b:Dy):jK b (ja a b)<=0:=by
 unfold ja;split
 .exact z8 b
 .omega
def qy{a b:Dy}(ha:a.ik)(hb:b.ik):(jd a b).ik:=by unfold jd;split;exact hb;exact ha
def pL{a b:Dy}(ha:a.ik)(hb:b.ik):(ja a b).ik:=by unfold ja;split;exact hb;exact ha
def mL(D : Dy->Dy->Bool->Dy)(E : Dy->Dy->Bool->Int)(x y : Iv) : Iv:=
 if(E x.lo y.lo false=0/\E x.lo y.lo true=0)/\(E x.lo y.hi false=0/\E x.lo y.hi true=0)/\(E x.hi y.lo false=0/\E x.hi y.lo true=0)/\(E x.hi y.hi false=0/\E x.hi y.hi true=0)then
  ⟨jd (jd (jd (D x.lo y.lo false) (D x.lo y.hi false)) (D x.hi y.lo false)) (D x.hi y.hi false),
   ja (ja (ja (D x.lo y.lo true) (D x.lo y.hi true)) (D x.hi y.lo true)) (D x.hi y.hi true),false⟩
 else iu
def Tf{D:Dy->Dy->Bool->Dy}{E:Dy->Dy->Bool->Int}{x y:Iv}(hv:∀ a b up,(D a b up).ik)
 (hle:E x.lo y.lo false=0->E x.lo y.lo true=0->jK (D x.lo y.lo false) (D x.lo y.lo true)<=0):(mL D E x y).ik:=by
 unfold mL;split
 .rename_i h;refine .inr ⟨rfl,qy (qy (qy (hv _ _ _) (hv _ _ _)) (hv _ _ _)) (hv _ _ _),pL (pL (pL (hv _ _ _) (hv _ _ _)) (hv _ _ _)) (hv _ _ _),?_⟩;refine le_trans (Gj _ _) (le_trans (Gj _ _) (le_trans (Gj _ _) (le_trans (hle h.1.1 h.1.2) ?_)));exact le_trans (Ej _ _) (le_trans (Ej _ _) (Ej _ _))
 .exact mD
def jt(x y:Iv)(p:Nat):Iv:=
 if x.all||y.all then iu else mL (λa b up=>jf (lg a b) p up) (λa b up=>jx (lg a b) p up) x y
def pn(x y:Iv){p:Nat}(hp:1<=p)(ij:p<=4096):(jt x y p).ik:=by
 unfold jt;split
 .exact mD
 .exact Tf (λ_ _ _=>mR _ _ _ _ _ _ hp ij) (λh1 h2=>RU _ _ _ _ _ h1 h2)
def kz(a b:Dy)(p:Nat)(g:Nat):Nat:=p+g+iq b.m-iq a.m
def kG(a b:Dy)(p:Nat)(up:Bool):Dy:=
 if a.m=0 then jD else jY (a.neg != b.neg) (a.m*2^kz a b p 2/b.m) (a.e-b.e-kz a b p 2) (decide (a.m*2^kz a b p 2%b.m≠0)) p up
def nF(a b:Dy)(p:Nat)(up:Bool):Int:=
 if a.m=0 then 0 else jP (a.neg != b.neg) (a.m*2^kz a b p 2/b.m) (a.e-b.e-kz a b p 2) (decide (a.m*2^kz a b p 2%b.m≠0)) p up
def L3{a b:Dy}(a0:a.m≠0)(b0:b.m≠0)(p g:Nat)(hg:2<=g):p<iq (a.m*2^kz a b p g/b.m):=by
 have h1:=sF a0;have h2:=pK b.m;have ha:=nv a0;have h3:2^p<=a.m*2^kz a b p g/b.m:=by
  rw[dq aE];refine bG (cO _ (dE h2)) (bG ?_ (bX _ h1));rw[<-bE,<-bE];exact bN aG (by unfold kz;omega)
 exact tD.2 h3
def adx{a b:Dy}(a0:a.m≠0)(b0:b.m≠0)(p:Nat)(up:Bool):
 jY (a.neg != b.neg) (a.m*2^kz a b p 3/b.m) (a.e-kz a b p 3-b.e) (decide (a.m*2^kz a b p 3%b.m≠0)) p up=kG a b p up /\
 jP (a.neg != b.neg) (a.m*2^kz a b p 3/b.m) (a.e-kz a b p 3-b.e) (decide (a.m*2^kz a b p 3%b.m≠0)) p up=nF a b p up:=by
 obtain⟨d,hd⟩:∃ d,kz a b p 3=kz a b p 2+d:=⟨kz a b p 3-kz a b p 2,by unfold kz;omega⟩
 have hb:=L3 a0 b0 p 2 aG;unfold kG nF;rw[bu a0,bu a0,hd];generalize kz a b p 2=k at *
 have hB:0<b.m:= aE ;have hP:=bF (n:=d) (aG:0<2);have e1:a.m*2^(k+d)/b.m/2^d=a.m*2^k/b.m:=by
  rw[cW,bE,<-bL,Nat.mul_div_mul_right _ _ hP]
 have e2:(decide (a.m*2^(k+d)%b.m≠0)||decide (a.m*2^(k+d)/b.m%2^d≠0))=decide (a.m*2^k%b.m≠0):=by
  have h1:a.m*2^(k+d)%(b.m*2^d)=a.m*2^k%b.m*2^d:=by rw[bE,<-bL,Nat.mul_mod_mul_right]
  have h2:a.m*2^(k+d)%(b.m*2^d)=a.m*2^(k+d)%b.m+b.m*(a.m*2^(k+d)/b.m%2^d):=gG;rw[h1]at h2;rw[ep];simp only[fO,cS];constructor
  .intro h h0;rw[h0,cP]at h2;rcases h with h|h
   .omega
   .have:=fA hB (en h);omega
  .intro h;apply ca;intro hn;have n1:a.m*2^(k+d)%b.m=0:=by
    apply ca;intro h';exact hn (.inl h')
   have n2:a.m*2^(k+d)/b.m%2^d=0:=by
    apply ca;intro h';exact hn (.inr h')
   rw[n1,n2,cU]at h2;have:=fA (en h) hP;omega
 have h:=Iw (N:=a.m*2^(k+d)/b.m) (E:=a.e-((k+d:Nat):Int)-b.e) (more:=decide (a.m*2^(k+d)%b.m≠0)) (d:=d) (p:=p) (a.neg != b.neg) up (by rw[e1];exact hb);rw[e1,e2,(aE:a.e-((k+d:Nat):Int)-b.e+(d:Int)=a.e-b.e-(k:Int))]at h;exact⟨h.1.symm,h.2.symm⟩
def lZ(x:Iv):Int:=if x.all then 0 else if 0<x.lo.jb then 1 else if x.hi.jb<0 then -1 else 0
def jT(x y:Iv)(p:Nat):Iv:=
 if x.all||y.all||decide (lZ y=0)then iu else mL (λa b up=>kG a b p up) (λa b up=>nF a b p up) x y
def tV(x y:Iv){p:Nat}(hp:1<=p)(ij:p<=4096):(jT x y p).ik:=by
 unfold jT;split
 .exact mD
 .refine Tf (λa b up=>?_) (λh1 h2=>?_)
  .unfold kG;split
   .exact q6
   .exact mR _ _ _ _ _ _ hp ij
  .unfold kG nF at *
   split
   .exact z8 _
   .rename_i h;rw[bu h]at h1 h2;exact RU _ _ _ _ _ h1 h2
def lF(d:Dy):Dy:=⟨false,d.m,d.e⟩
def sj{d:Dy}(h:d.ik):(lF d).ik:=by
 refine⟨?_,h.range⟩;rcases h.canon with⟨h1,_,h3⟩|h1
 .exact .inl ⟨h1,rfl,h3⟩
 .exact .inr h1
def aaw(d:Dy)(k:Int):(lF d).num k=(d.kr k:Int):=by unfold Dy.num lF Dy.kr;simp
def kS(x:Iv):Dy:=ja (lF x.lo) (lF x.hi)
def nK(x:Iv):Dy:=if lZ x=0 then jD else jd (lF x.lo) (lF x.hi)
def jh(x:Iv):Iv:=if x.all then iu else⟨nK x,kS x,false⟩
def mi(d:Dy):Iv:=⟨d,d,false⟩
def uo{d:Dy}(h:d.ik):(mi d).ik:=.inr ⟨rfl,h,h,z8 d⟩
def xq{x:Iv}(h1:x.lo.ik)(h2:x.hi.ik):(kS x).ik:=pL (sj h1) (sj h2)
def E6{x:Iv}(h:x.ik):(jh x).ik:=by
 unfold jh;rcases h with⟨h,_⟩|⟨h,h1,h2,_⟩
 .rw [h];exact mD
 .rw [h];have v1:=sj h1;have v2:=sj h2;refine .inr ⟨rfl,?_,xq h1 h2,?_⟩
  .show (nK x).ik;unfold nK;split
   .exact q6
   .exact qy v1 v2
  .show jK (nK x) (kS x)<=0;unfold nK;split
   .refine le_trans (b:=lF x.lo) ?_ (Ej _ _);rw[oV (a:=jD) (b:=lF x.lo) (k:=x.lo.e) (.inl rfl) (.inr (cI _)),wB rfl,aaw];omega
   .exact le_trans (Gj _ _) (Ej _ _)
structure rM(m:List (List Iv))(n k:Nat):Prop where
 lq:m.length=n
 row:∀ r,r ∈ m->r.length=k
 ok:∀ r,r ∈ m->∀ x,x ∈ r->x.ik
 n1:1<=n
 n8:n<=8
 k1:1<=k
 k8:k<=8
def jo(n:Int):Dy:=pB n 0
def iS(n:Int):Iv:=mi (jo n)
end Go.Proofs.YtkjkcjhacddojaaGreatDoor.Fp
namespace Go.Proofs.YtkjkcjhacddojaaGreatDoor
open Go.RowKit Fp Pu
def iZ(x:Iv):List E:=[bP x.lo.neg,ic (ia x.lo.m),iP x.lo.e,bP x.hi.neg,ic (ia x.hi.m),iP x.hi.e,bP x.all]
def ig(x:Iv):E:=.agg (iZ x)
def iA(l:List Iv):E:=.sl true l.length 7 λi j=>(iZ (l.getD i iu)).getD j .any
def lV(m:List (List Iv)):E:=.sl true m.length 1 λi _=>iA (m.getD i [])
def CF:E.le (.v (.slice none 0 0)) (ic (ia 0)):=by
 have:ic (ia 0) = .sl false 0 1 λi _=>.v (.int .u32 (((ia 0).getD i 0:Nat):Int)):=by unfold ic;rw[nT];rfl
 rw[this];exact .nil _ _ _
def xI:E.le (.agg [bP false,.v (.slice none 0 0),iP 0,bP false,.v (.slice none 0 0),iP 0,bP true]) (ig iu):=
 .agg (.cons (.refl _) (.cons CF (.cons (.refl _) (.cons (.refl _) (.cons CF (.cons (.refl _) (.cons (.refl _) .nil)))))))
structure RD where
 neg:Bool
 L:List Nat
 e:Int
structure RI where
 lo:RD
 hi:RD
 all:Bool
def XV(d:RD):List E:=[bP d.neg,ic d.L,iP d.e]
def rn(d:RD):E:=.agg (XV d)
def xC(x:RI):List E:=[bP x.lo.neg,ic x.lo.L,iP x.lo.e,bP x.hi.neg,ic x.hi.L,iP x.hi.e,bP x.all]
def qo(x:RI):E:=.agg (xC x)
def EH:RD:=⟨false,[],0⟩
def jz:RI:=⟨EH,EH,true⟩
def kJ(l:List RI):E:=.sl true l.length 7 λi j=>(xC (l.getD i jz)).getD j .any
def CW(m:List (List RI)):E:=.sl true m.length 1 λi _=>kJ (m.getD i [])
structure RD.jH(d:RD):Prop where
 ok:iK d.L
 lo:-9223372036854775808<=d.e
 hi:d.e<=9223372036854775807
structure RI.jH(x:RI):Prop where
 lo:x.lo.jH
 hi:x.hi.jH
def Yy:EH.jH:=⟨iK.nil,aG,aG⟩
def Kw:jz.jH:=⟨Yy,Yy⟩
def RD.dy(d:RD):Dy:=⟨d.neg,val d.L,d.e⟩
def RD.Ok(d:RD):Prop:=pr d.neg d.L d.e
def RD.Zero(d:RD):Prop:=d.neg=false/\d.L=[]/\d.e=0
def RI.iv(x:RI):Iv:=⟨x.lo.dy,x.hi.dy,x.all⟩
def RI.Ok(x:RI):Prop:=(x.all=true/\x.lo.Zero/\x.hi.Zero)\/(x.all=false/\x.lo.Ok/\x.hi.Ok/\jK x.lo.dy x.hi.dy<=0)
def Fp.Dy.raw(d:Dy):RD:=⟨d.neg,ia d.m,d.e⟩
def Fp.Iv.raw(x:Iv):RI:=⟨x.lo.raw,x.hi.raw,x.all⟩
def RD.Ok.valid{d:RD}(h:d.Ok):d.dy.ik:=h.2.2
def RD.Ok.eq{d:RD}(h:d.Ok)(g:d.jH):d.dy.raw=d:=by
 obtain⟨n,L,e⟩:=d;show RD.mk n (ia (val L)) e=_;rw[<-pr.Fu h g.ok]
def RD.Zero.eq{d:RD}(h:d.Zero):d.dy=jD/\d.dy.raw=d:=by
 obtain⟨n,L,e⟩:=d;obtain⟨rfl,rfl,rfl⟩:=h;refine⟨rfl,?_⟩;show RD.mk false (ia 0) 0=_;rw[nT]
def RI.Ok.valid{x:RI}(h:x.Ok):x.iv.ik:=by
 rcases h with⟨h1,h2,h3⟩|⟨h1,h2,h3,h4⟩
 .exact .inl ⟨h1,h2.eq.1,h3.eq.1⟩
 .exact .inr ⟨h1,h2.valid,h3.valid,h4⟩
def RI.Ok.eq{x:RI}(h:x.Ok)(g:x.jH):x.iv.raw=x:=by
 obtain⟨lo,hi,a⟩:=x;rcases h with⟨h1,h2,h3⟩|⟨h1,h2,h3,h4⟩
 .show RI.mk lo.dy.raw hi.dy.raw a=_;rw[h2.eq.2,h3.eq.2]
 .show RI.mk lo.dy.raw hi.dy.raw a=_;rw[h2.eq g.lo,h3.eq g.hi]
def Fp.Dy.XN(d:Dy):d.raw.dy=d:=by show Dy.mk d.neg (val (ia d.m)) d.e=d;rw[kf]
def JJ(x:Iv):qo x.raw=ig x:=rfl
def Fp.Dy.ik.DI{d:Dy}(h:d.ik):d.raw.jH:=⟨kR _,by have:=h.exp;show -9223372036854775808<=d.e;omega,by have:=h.exp;show d.e<=9223372036854775807;omega⟩
def Fp.Dy.ik.rG{d:Dy}(h:d.ik):d.raw.Ok:=h.vI
def Fp.Iv.ik.rG{x:Iv}(h:x.ik):x.raw.Ok:=by
 rcases h with⟨h1,h2,h3⟩|⟨h1,h2,h3,h4⟩
 .refine .inl ⟨h1,?_,?_⟩
  .show x.lo.raw.Zero;rw[h2];exact⟨rfl,nT,rfl⟩
  .show x.hi.raw.Zero;rw[h3];exact⟨rfl,nT,rfl⟩
 .refine .inr ⟨h1,h2.rG,h3.rG,?_⟩;show jK x.lo.raw.dy x.hi.raw.dy<=0;rw[Dy.XN,Dy.XN];exact h4
def Fp.Iv.ik.kp{x:Iv}(h:x.ik):x.lo.ik/\x.hi.ik:=by
 rcases h with⟨_,h2,h3⟩|⟨_,h2,h3,_⟩
 .rw [h2,h3];exact⟨q6,q6⟩
 .exact ⟨h2,h3⟩
def Fp.Iv.ik.DI{x:Iv}(h:x.ik):x.raw.jH:=⟨h.kp.1.DI,h.kp.2.DI⟩
def aoU:iu.raw=jz:=by
 show RI.mk jD.raw jD.raw true=RI.mk EH EH true;have:jD.raw=EH:=by show RD.mk false (ia 0) 0=_;rw[nT];rfl
 rw[this]
def xA(l:List Iv):List RI:=l.map Iv.raw
def u7(m:List (List Iv)):List (List RI):=m.map xA
def Tx(l:List Iv)(i:Nat):(xA l).getD i jz=(l.getD i iu).raw:=by
 unfold xA;rw[bD,bD,cQ];cases l[i]? with
 |none=>exact aoU.symm
 |some x=>rfl
def NT(l:List Iv):kJ (xA l)=iA l:=by
 unfold kJ iA;rw[show(xA l).length=l.length by simp[xA]];congr 1;funext i j;rw[Tx];rfl
def aia(m:List (List Iv)):CW (u7 m)=lV m:=by
 unfold CW lV;rw[show(u7 m).length=m.length by simp[u7]];congr 1;funext i j;rw[<-NT];congr 1;unfold u7;rw[bD,bD,cQ];cases m[i]? <;> rfl
structure EZ(m:List (List RI)):Prop where
 n1:1<=m.length
 n8:m.length<=8
 k1:1<=(m.getD 0 []).length
 k8:(m.getD 0 []).length<=8
 row:∀ i,i<m.length->(m.getD i []).length=(m.getD 0 []).length
 ok:∀ i,i<m.length->∀ j,j<(m.getD i []).length->((m.getD i []).getD j jz).Ok
def EW(m:List (List RI)):Prop:=∀ r,r ∈ m->∀ x,x ∈ r->x.jH
def EW.at{m:List (List RI)}(h:EW m)(i j:Nat):((m.getD i []).getD j jz).jH:=by
 by_cases hi:i<m.length
 .rw [bD (l:=m),bI hi];show(m[i].getD j jz).jH;by_cases hj:j<m[i].length
  .rw [bD,bI hj];exact h _ (cN hi) _ (cN hj)
  .rw [bD,cC aE];exact Kw
 .rw [bD (l:=m),cC aE];exact Kw
def Dv(d:RD)(g:d.jH)(b:Bool)(hb:b=true↔d.Ok):gZ 92 [rn d] (bP b):=by
 refine⟨call92,λw B vs hK hB hr=>?_⟩;obtain⟨v1,vs,rfl,h1,hr⟩:=hr.mI;obtain rfl:=hr.qm;obtain⟨us,rfl,q⟩:=iN.Dg (show iN _ _ w (.agg _) v1 from h1);obtain⟨u1,us,rfl,k1,q⟩:=q.mI;obtain⟨u2,us,rfl,k2,q⟩:=q.mI;obtain⟨u3,us,rfl,k3,q⟩:=q.mI;obtain rfl:=q.qm;obtain rfl:=iN.kW k1;obtain rfl:=iN.kW k3;obtain⟨A,c,rfl,hs⟩:=vd g.ok k2;exact(B0 d.neg A c d.L d.e w b hs g.lo g.hi hb).mono λe w' h=>rv B w e w' hB h
def Pq(d:RD)(g:d.jH)(b:Bool)(hb:b=true↔d.Ok):gZ 96 [rn d] (bP b):=by
 refine⟨call96,λw B vs hK hB hr=>?_⟩;obtain⟨v1,vs,rfl,h1,hr⟩:=hr.mI;obtain rfl:=hr.qm;obtain⟨us,rfl,q⟩:=iN.Dg (show iN _ _ w (.agg _) v1 from h1);obtain⟨u1,us,rfl,k1,q⟩:=q.mI;obtain⟨u2,us,rfl,k2,q⟩:=q.mI;obtain⟨u3,us,rfl,k3,q⟩:=q.mI;obtain rfl:=q.qm;obtain rfl:=iN.kW k1;obtain rfl:=iN.kW k3;obtain⟨A,c,rfl,hs⟩:=vd g.ok k2;exact(Ko d.neg A c d.L d.e w b hs g.lo g.hi hb).mono λe w' h=>rv B w e w' hB h
def aiv{a b:Nat}(h:a≠b):((a:Int) != (b:Int))=true:= aS 
def Ag{a b:Nat}(h:a=b):((a:Int) != (b:Int))=false:=by simp[h]
def Ot{a b:Nat}(h:a=b):((a:Int)==b)=true:=by simp[h]
open Classical in
noncomputable def mz(x:RI):Bool:=decide x.Ok
def sD{x:RI}:mz x=true↔x.Ok:=by unfold mz;simp
open Classical in
noncomputable def xt(m:List (List RI)):Bool:=decide (EZ m)
def Og{m:List (List RI)}:xt m=true↔EZ m:=by unfold xt;simp
def Gi{m:List (List RI)}(h:¬EZ m):xt m=false:=by simpa using λq=>h (Og.1 q)
open Go.ChangeShapes Go.WideShapes Go.ChangeAt
abbrev om:Nat->Prop:=λ_=>False
def acx{W:World}{a:Addr}{v:Value}(h:W.cell? a=some v):a.spot=none:=by
 obtain⟨b,o,s⟩:=a;rcases s with _|q
 .rfl
 .exfalso;unfold World.cell? at h;split at h<;>simp at h
def Pr{W:World}{a:Addr}{len cap sz:Nat}{nl:Bool}(el:Nat->Nat->E)(hl:len<=cap)(hm:cap<=maxLen)(lW:0<sz)
 (h1:∀ i j,i<len->j<sz->(el i j).one=true/\(nl=true->(el i j).nL=true)/\(el i j).nr 2=true)
 (hx:∀ i,i<len->∃ cs,W.cells? 0 (a.add (i*sz)) sz=some cs/\∀ j,j<sz->∃ v,cs[j]? = some v/\iN om om W (el i j) v):
 iN om om W (.sl nl len sz el) (.slice (some a) len cap):=by
 have Uy:cap<=9223372036854775807:=by simpa[maxLen]using hm
 have cellAt:∀ i j,i<len->j<sz->∃ v,W.cell? (a.add (i*sz+j))=some v/\iN om om W (el i j) v:=by
  intro i j hi hj;obtain⟨cs,h2,h3⟩:=hx i hi;obtain⟨v,h4,h5⟩:=h3 j hj;refine⟨v,?_,h5⟩;rw[<-Deep.add_add,(World.cells?_some h2).2.2 j hj,h4]
 by_cases h0:len=0
 .subst h0;exact .sl nl 0 sz el _ cap (λ_ _=>.bool false) aE Uy (λh=>by cases h) (λi j hi=>absurd hi aE) (λi j hi=>absurd hi aE) (λi j hi=>absurd hi aE) (λi j hi=>absurd hi aE)
 .obtain ⟨b,o,s⟩:=a;have hs:s=none:=by
   obtain⟨v,h2,_⟩:=cellAt 0 0 aE lW;rw[cP,cD,show(⟨b,o,s⟩:Addr).add 0=⟨b,o,s⟩from rfl]at h2;exact acx h2
  subst hs;have cell2:∀ i j,∃ v:Value,i<len->j<sz->W.cell? ⟨b,o+(i*sz+j),none⟩=some v/\iN om om W (el i j) v:=by
   intro i j;by_cases hi:i<len
   .by_cases hj:j<sz
    .obtain ⟨v,h2,h3⟩:=cellAt i j hi hj;rw[BP]at h2;exact⟨v,λ_ _=>⟨h2,h3⟩⟩
    .exact ⟨.bool false,λ_ h=>absurd h hj⟩
   .exact ⟨.bool false,λh=>absurd h hi⟩
  let f:Nat->Nat->Value:=λi j=>Classical.choose (cell2 i j)
  have hf:∀ i j,i<len->j<sz->W.cell? ⟨b,o+(i*sz+j),none⟩=some (f i j)/\iN om om W (el i j) (f i j):=λi j=>dr (cell2 i j)
  refine .sl nl len sz el _ cap f hl Uy (λh=>by cases h) (λi j hi hj=>?_) (λi j hi hj=>(h1 i j hi hj).2.2) (λi j hi hj=>?_) (λi j hi hj=>(hf i j hi hj).2)
  .exact ⟨(hf i j hi hj).2.one (h1 i j hi hj).1,λq=>(hf i j hi hj).2.nL ((h1 i j hi hj).2.1 q)⟩
  .exact ⟨b,o,rfl,id,block_lt_of_cell (hf i j hi hj).1,(hf i j hi hj).1⟩
def aan(W:World)(d:RD)(cs:List Value):Prop:=d.jH/\cs.length=3/\∀ j,j<3->∃ v,cs[j]? = some v/\iN om om W ((XV d).getD j .any) v
def Lc(W:World)(x:RI)(cs:List Value):Prop:=x.jH/\cs.length=7/\∀ j,j<7->∃ v,cs[j]? = some v/\iN om om W ((xC x).getD j .any) v
section
variable {H:Type} {enc:TypeId×Value->H} {W:World} {fuel:Nat} {cs:List Value} {x:DataW H×List MemPlace}
def WS(h:DataW.trod enc prog W 0 (λ_=>true) true fuel 39 cs=some x)(iL:∀ p ∈ x.2,p.block<W.heap.size):∃ d,aan W d cs:=by
 obtain⟨s,A,L,cap,e,rfl,ue,h1,h2⟩:=ajf h iL;refine⟨⟨s,L,e⟩,⟨ue.ok,h1,h2⟩,rfl,λj hj=>?_⟩;rcases j with _|_|_|j
 .exact ⟨_,rfl,.v _⟩
 .exact ⟨_,rfl,yO (w:=W) (λ_ h=>h.elim) (.refl _) ue⟩
 .exact ⟨_,rfl,.v _⟩
 .omega
def ajj(h:DataW.trod enc prog W 0 (λ_=>true) true fuel 46 cs=some x)(iL:∀ p ∈ x.2,p.block<W.heap.size):∃ d,Lc W d cs:=by
 obtain⟨xs,n,rfl,rfl,hl,mg,hf⟩:=DataW.trod_struct underlying46 h;have hC:prog.cellsOf 46=7:= aI ;have hD:prog.cellsOf 39=3:= aI ;have hB:prog.cellsOf 4=1:= aI ;rw[hC]at hl;obtain⟨c0,c1,c2,c3,c4,c5,c6,rfl⟩:=ahS hl;have h0:=hf 0 _ rfl;have h1:=hf 1 _ rfl;have h2:=hf 2 _ rfl;simp only[fD,fE,eJ]at h0 h1 h2;simp only[hD,hB,fF,fG,eX,fH]at h0 h1 h2;rw[bI (by rw[mg];decide)]at h0 h1 h2;obtain⟨lo,g1,_,k1⟩:=WS h0 (λp hp=>iL p (fI.2 ⟨_,cN _,hp⟩));obtain⟨hi,g2,_,k2⟩:=WS h1 (λp hp=>iL p (fI.2 ⟨_,cN _,hp⟩));obtain⟨al,e2,_⟩:=DataW.trod_bool underlying4 h2;simp at e2;subst e2;refine⟨⟨lo,hi,al⟩,⟨g1,g2⟩,rfl,λj hj=>?_⟩;rcases j with _|_|_|_|_|_|_|j
 .exact k1 0 aG 
 .exact k1 1 aG 
 .exact k1 2 aG 
 .exact k2 0 aG 
 .exact k2 1 aG 
 .exact k2 2 aG 
 .exact ⟨_,rfl,.v _⟩
 .omega
def alE(x:RI)(j:Nat)(hj:j<7):((xC x).getD j .any).one=true/\(((xC x).getD j .any).nL=true)/\((xC x).getD j .any).nr 2=true:=by
 rcases j with _|_|_|_|_|_|_|j
 all_goals first|exact⟨rfl,rfl,rfl⟩|omega
def WT(h:DataW.trod enc prog W 0 (λ_=>true) true fuel 26 cs=some x)(iL:∀ p ∈ x.2,p.block<W.heap.size):
  ∃ l v,cs=[v]/\(∀ y,y ∈ l->y.jH)/\iN om om W (kJ l) v:=by
 have hC:prog.cellsOf 46=7:= aI ;rcases Deep.open_slice underlying26 h with⟨rfl,_⟩|⟨a,len,cap,m,n,D,Pl,rfl,hb,hl,hm,sO,rfl,hx⟩
 .exact ⟨[],_,rfl,(λy hy=>by cases hy),.sl true 0 7 _ none 0 (λ_ _=>.bool false) (bC _) aG (λ_=>rfl) (λi j hi=>absurd hi (bO i)) (λi j hi=>absurd hi (bO i)) (λi j hi=>absurd hi (bO i)) (λi j hi=>absurd hi (bO i))⟩
 .simp only[bQ]at sO;subst sO;have ex:∀ i,∃ y:RI,i<len->∃ cs',W.cells? 0 (a.add (i*7)) 7=some cs'/\Lc W y cs':=by
   intro i;by_cases hi:i<len
   .obtain ⟨cs',h1,h2⟩:=hx i aE ;rw[hC]at h1;obtain⟨y,hy⟩:=ajj h2 (λp hp=>iL p (List.mem_append_right _ (fI.2 ⟨i,bY.2 aE,hp⟩)));exact⟨y,λ_=>⟨cs',h1,hy⟩⟩
   .exact ⟨jz,λh=>absurd h hi⟩
  let X:Nat->RI:=λi=>Classical.choose (ex i)
  have hX:∀ i,i<len->∃ cs',W.cells? 0 (a.add (i*7)) 7=some cs'/\Lc W (X i) cs':=λi=>dr (ex i)
  have hlen:((List.range len).map X).length=len:= aK ;refine⟨(List.range len).map X,_,rfl,?_,?_⟩
  .intro y hy;obtain⟨i,hi,rfl⟩:=dC.1 hy;obtain⟨cs',_,h2⟩:=hX i (bY.1 hi);exact h2.1
  .have Cc:∀ i,i<len->((List.range len).map X).getD i jz=X i:=by
    intro i hi;rw[bD,cQ,aqg hi];rfl
   have:=Pr (W:=W) (a:=a) (len:=len) (cap:=m) (nl:=true) (λi j=>(xC (((List.range len).map X).getD i jz)).getD j .any) hl hm (show 0<7 by decide)
    (λi j _ hj=>let⟨h1,h2,h3⟩:=alE (((List.range len).map X).getD i jz) j hj;⟨h1,λ_=>h2,h3⟩)
    (λi hi=>by
     obtain⟨cs',h1,h2,_,h3⟩:=hX i hi;exact⟨cs',h1,λj hj=>by rw[Cc i hi];exact h3 j hj⟩)
   unfold kJ;rw[hlen];exact this
end
def afY{P:Program}{c:OpenClaim}(h:P.funcs.any Func.goes=false)(hs:c.start = .entering):false=c.goesBy P:=by
 have h1:∀ g:Nat,(P.funcs[g]?).any Func.goes=false:=by
  intro g;cases hg:P.funcs[g]? with
  |none=>rfl
  |some fn=>
   rw[Option.any_some];rw[Array.any_eq_false]at h;obtain⟨hl,he⟩:=dv.1 hg;have:=h g hl;rw[he]at this;simpa using this
 have h2:∀ f,P.goes f=false:=by
  intro f;unfold Program.goes;rw[h,Bool.and_false,ap0,dx];intro g _;rw[h1 g];decide
 unfold OpenClaim.goesBy Program.goesAt Program.goesFrom;rw[hs];cases P.funcNamed c.func with
 |none=>rfl
 |some f=>simp[h2 f]
def afb:Tryz.pinned.checked.prog.funcs.any Func.goes=false:= aI 
def Va(k:IntKind)(l:List Int):E:=.sl true l.length 1 λi _=>.v (.int k (l.getD i 0))
def Z7{k:IntKind}{z:Int}(h:(Lit.int k z).wf=true):ku k z:=by
 cases k<;>(simp[Lit.wf,IntKind.min,IntKind.max,IntKind.signed,IntKind.bits]at h;simp only[ku];omega)
def ajg{H:Type}{enc:TypeId×Value->H}{W:World}{fuel:Nat}{cs:List Value}{x:DataW H×List MemPlace}{t e:TypeId}{k:IntKind}(hk:∀ z,sR (.int k z)=false)(ht:prog.underlying t=some (.slice e))(he:prog.underlying e=some (.int k))(hC:prog.cellsOf e=1)
  (h:DataW.trod enc prog W 0 (λ_=>true) true fuel t cs=some x):∃ l v,cs=[v]/\(∀ z,z ∈ l->ku k z)/\iN om om W (Va k l) v:=by
 rcases Deep.open_slice ht h with⟨rfl,_⟩|⟨a,len,cap,m,n,D,Pl,rfl,hb,hl,hm,sO,rfl,hx⟩
 .exact ⟨[],_,rfl,(λy hy=>by cases hy),.sl true 0 1 _ none 0 (λ_ _=>.bool false) (bC _) aG (λ_=>rfl) (λi j hi=>absurd hi (bO i)) (λi j hi=>absurd hi (bO i)) (λi j hi=>absurd hi (bO i)) (λi j hi=>absurd hi (bO i))⟩
 .simp only[bQ]at sO;subst sO;have ex:∀ i,∃ z:Int,i<len->W.cells? 0 (a.add (i*1)) 1=some [.int k z]/\ku k z:=by
   intro i;by_cases hi:i<len
   .obtain ⟨cs',h1,h2⟩:=hx i aE ;rw[hC]at h1;obtain⟨z,hz,_,hw⟩:=DataW.trod_int he h2;subst hz;exact⟨z,λ_=>⟨h1,Z7 hw⟩⟩
   .exact ⟨0,λh=>absurd h hi⟩
  let X:Nat->Int:=λi=>Classical.choose (ex i)
  have hX:∀ i,i<len->W.cells? 0 (a.add (i*1)) 1=some [.int k (X i)]/\ku k (X i):=λi=>dr (ex i)
  have hlen:((List.range len).map X).length=len:= aK ;refine⟨(List.range len).map X,_,rfl,?_,?_⟩
  .intro r hr;obtain⟨i,hi,rfl⟩:=dC.1 hr;exact(hX i (bY.1 hi)).2
  .have Cc:∀ i,i<len->((List.range len).map X).getD i 0=X i:=by
    intro i hi;rw[bD,cQ,aqg hi];rfl
   have:=Pr (W:=W) (a:=a) (len:=len) (cap:=m) (nl:=true) (λi _=>.v (.int k (((List.range len).map X).getD i 0))) hl hm (show 0<1 by decide)
    (λi j _ hj=>⟨rfl,λ_=>by show(!sR _)=true;rw[hk];rfl,rfl⟩)
    (λi hi=>by
     refine⟨[.int k (X i)],(hX i hi).1,λj hj=>?_⟩;obtain rfl:j=0:= aE ;exact⟨_,rfl,by rw[Cc i hi];exact .v _⟩)
   unfold Va;rw[hlen];exact this
end Go.Proofs.YtkjkcjhacddojaaGreatDoor
namespace Go.Proofs.YtkjkcjhacddojaaGreatDoor.Pu
open Go.RowKit
inductive R where
 |nil
 |jM
 |a (p:Prop) (r:R)
 |w (p:Prop) (r1:p->R) (r2:¬p->R)
def R.ok:R->Prop
 | .nil=>True
 | .jM=>False
 | .a p r=>p/\r.ok
 | .w p r1 r2=>(∀ h:p,(r1 h).ok)/\(∀ h:¬p,(r2 h).ok)
inductive Tr(P:Program)(K:World->Prop) where
 |nil
 |c {f:FuncId} {args:List E} {ko:E} (h:PC P K f args ko) (t:Tr P K)
 |cf {f:FuncId} {args:List E} {ko:E} (h:BN P K f args ko) (t:Tr P K)
 |cn {f:FuncId} {args:List E} {nl:Bool} {T:TypeId} {n sz:Nat} {el:Nat->Nat->E} (h:vw P K f args nl T n sz el) (t:Tr P K)
 |g {op:BinOp} {ty:TypeId} {x y:E} {v:Value} (h:nn P op ty x y v) (t:Tr P K)
 |m {l:List (Int×FuncId×List FuncId)} {z:Int} {e:E} (h:yE l z=some e) (t:Tr P K)
 |o (d:Nat) {p q:PV} (h:PV.le p q) (t:Tr P K)
 |bo (t:Tr P K)
 |a {p:Prop} (h:p) (t:Tr P K)
 |w (p:Prop) (t1:p->Tr P K) (t2:¬p->Tr P K)
 |s {c:Code} {σ τ:PS} {e:Ex} (h:Sp P K c σ (λe' τ'=>e'=e/\τ'=τ)) (l t:Tr P K)
 |j (c:Nat) (τ:PS) (tj t:Tr P K)
 |v (d:Nat) {p q:PV} (h:PV.le p q) (t:Tr P K)
 |b (d:Nat) {p q:Bx} (h:Bx.le p q) (t:Tr P K)
 |z (id:Nat) (t:Tr P K)
 |y (s id:Nat) (nl:Bool) (T:TypeId) (sz:Nat) (el:Nat->Nat->E) (t:Tr P K)
 |e (t:Tr P K)
 |k (ts bs:List Nat) (t:Tr P K)
 |u (n:Nat) (t:Tr P K)
 |x (h:False)
 |r {p q:E} (h:E.le p q)
 |rb {p q:Bx} (h:Bx.le p q)
section
variable {P:Program} {K:World->Prop}
def ER:List (Nat×PV)->Tr P K->(Tr P K->R)->R
 | [],t,k=>k t
 | (d,q)::l,t,k=>match t with
  | .o d' (p:=p) (q:=q') _ t'=>if Nat.beq d' d then .a (PV.le p q') (ER l t' k)else .a (PV.le q q) (ER l t k)
  |t=>.a (PV.le q q) (ER l t k)
def Dj:List (Nat×Bx)->Tr P K->R->R
 | [],_,r=>r
 | (d,q)::l,t,r=>match t with
  | .b d' (p:=p) (q:=q') _ t'=>if Nat.beq d' d then .a (Bx.le p q') (Dj l t' r)else .a (Bx.le q q) (Dj l t r)
  |t=>.a (Bx.le q q) (Dj l t r)
def EM(σ:PS)(t:Tr P K)(r:R):R:=ER σ.t t λt=>Dj σ.b t r
def Tr.ex:Tr P K->(Tr P K->R)->R
 | .nil,fin=>fin .nil
 | .e t,fin=>fin t
 | @Tr.c _ _ f args ko _ t,fin=>.a (PC P K f args ko) (t.ex fin)
 | @Tr.cf _ _ f args ko _ t,fin=>.a (BN P K f args ko) (t.ex fin)
 | @Tr.cn _ _ f args nl T n sz el _ t,fin=>.a (vw P K f args nl T n sz el) (t.ex fin)
 | @Tr.g _ _ op₁ ty₁ xe₁ ye₁ ve₁ _ t,fin=>.a (nn P op₁ ty₁ xe₁ ye₁ ve₁) (t.ex fin)
 | @Tr.m _ _ l₁ z₁ e₁ _ t,fin=>.a (yE l₁ z₁=some e₁) (t.ex fin)
 | .o _ (p:=p) (q:=q) _ t,fin=>.a (PV.le p q) (t.ex fin)
 | .bo t,fin=>.a True (t.ex fin)
 | .a (p:=p) _ t,fin=>.a p (t.ex fin)
 | .w p t1 t2,fin=>.w p (λh=>(t1 h).ex fin) (λh=>(t2 h).ex fin)
 | @Tr.s _ _ c₁ σ τ e₁ _ l t,fin=>EM σ l (.a (Sp P K c₁ σ (λe' τ'=>e'=e₁/\τ'=τ)) (t.ex fin))
 | .j _ τ tj t,fin=>.a (tj.ex λt=>EM τ t .nil).ok (t.ex fin)
 | .v _ (p:=p) (q:=q) _ t,fin=>.a (PV.le p q) (t.ex fin)
 | .b _ _ t,fin=>t.ex fin
 | .z _ t,fin=>t.ex fin
 | .y _ _ _ _ _ _ t,fin=>t.ex fin
 | .k _ _ t,fin=>t.ex fin
 | .u _ t,fin=>t.ex fin
 | .x _,fin=>.a False .nil
 | .r (p:=p) (q:=q) _,fin=>.a (E.le p q) .nil
 | .rb (p:=p) (q:=q) _,fin=>.a (Bx.le p q) .nil
def anQ{l:List (Nat×PV)}{t:Tr P K}{k:Tr P K->R}(hk:∀ t,(k t).ok):(ER l t k).ok:=by
 induction l generalizing t with
 |nil=>exact hk t
 |cons x l ih=>
  obtain⟨d,q⟩:=x;cases t with
  |o d' h t'=>
   simp only[ER];split
   .exact ⟨h,ih⟩
   .exact ⟨PV.le.refl q,ih⟩
  |_=>exact⟨PV.le.refl q,ih⟩
def aaU{l:List (Nat×Bx)}{t:Tr P K}{r:R}(hr:r.ok):(Dj l t r).ok:=by
 induction l generalizing t with
 |nil=>exact hr
 |cons x l ih=>
  obtain⟨d,q⟩:=x;cases t with
  |b d' h t'=>
   simp only[Dj];split
   .exact ⟨h,ih⟩
   .exact ⟨Bx.le.refl q,ih⟩
  |_=>exact⟨Bx.le.refl q,ih⟩
def PX{σ:PS}{t:Tr P K}{r:R}(hr:r.ok):(EM σ t r).ok:=anQ λ_=>aaU hr
def Tr.Mm{fin:Tr P K->R}(hf:∀ t,(fin t).ok)(t:Tr P K):(t.ex fin).ok:=by
 induction t generalizing fin with
 |nil=>exact hf _
 |e t=>exact hf _
 |c h t ih=>exact⟨h,ih hf⟩
 |cf h t ih=>exact⟨h,ih hf⟩
 |cn h t ih=>exact⟨h,ih hf⟩
 |g h t ih=>exact⟨h,ih hf⟩
 |m h t ih=>exact⟨h,ih hf⟩
 |o d h t ih=>exact⟨h,ih hf⟩
 |bo t ih=>exact⟨trivial,ih hf⟩
 |a h t ih=>exact⟨h,ih hf⟩
 |w p t1 t2 F4 F5=>exact⟨λh=>F4 h hf,λh=>F5 h hf⟩
 |s h l t ihl ND=>exact PX ⟨h,ND hf⟩
 |j c τ tj t ihj ND=>exact⟨ihj λ_=>PX trivial,ND hf⟩
 |v d h t ih=>exact⟨h,ih hf⟩
 |b d h t ih=>exact ih hf
 |z id t ih=>exact ih hf
 |y s id nl T sz el t ih=>exact ih hf
 |k ts bs t ih=>exact ih hf
 |u n t ih=>exact ih hf
 |x h=>exact h.elim
 |r h=>exact⟨h,trivial⟩
 |rb h=>exact⟨h,trivial⟩
def P0(υ:PS):List (Nat×PV)->R->R
 | [],r=>r
 | (d,q)::l,r=>.a (PV.le (υ.get d) q) (P0 υ l r)
def Ij(υ:PS):List (Nat×Bx)->R->R
 | [],r=>r
 | (d,q)::l,r=>match υ.bo d with
  |some b=>.a (Bx.le b q) (Ij υ l r)
  |none=>.jM
def KE(υ σ:PS)(r:R):R:=if Nat.beq υ.n σ.n&&(σ.b.all (λx=>x.2.nl)||(σ.nl==υ.nl))&&GY σ then P0 υ σ.t (Ij υ σ.b r)else .jM
def Tr.tail:Tr P K->Tr P K
 | .c _ t=>t
 | .cf _ t=>t
 | .cn _ t=>t
 | .g _ t=>t
 | .m _ t=>t
 | .bo t=>t
 | .a _ t=>t
 |_=>.nil
def OG:List Prop->Tr P K->(Tr P K->R)->R
 | [],t,k=>k t
 |p::l,t,k=>.a p (OG l t.tail k)
def Rz(d:Option Tmp)(t:Tr P K):qE:=match d with
 |some d=>match t with
  | @Tr.c _ _ _ _ ko _ _=>{ cl:=[(d,ko)] }
  | @Tr.cf _ _ _ _ ko _ _=>{ cl:=[(d,ko)] }
  | @Tr.g _ _ _ _ _ _ ve₁ _ _=>{ cl:=[(d,.v ve₁)] }
  | @Tr.m _ _ _ _ e₁ _ _=>{ cl:=[(d,e₁)] }
  | @Tr.cn _ _ _ _ nl T n sz el _ _=>{ nw:=[(d,.row nl T n sz el)] }
  | .bo _=>{ nw:=[(d,.cells 0 [])] }
  |_=>{}
 |none=>{}
def GJ:Tr P K->(Tr P K->R)->R
 | .w p t1 t2,k=>.w p (λh=>GJ (t1 h) k) (λh=>GJ (t2 h) k)
 | .x _,_=>.a False .nil
 |t,k=>k t
def OU(o:Oper)(u:lh)(t:Tr P K)(k:lh->Tr P K->R):R:=match o.dst,t with
 |some d,.o d' (q:=q) _ t'=>if Nat.beq d' d then .a (PV.le u.r q) (k { u with r:=q,ke:=PV.le u.r q::u.ke } t')else k u t
 |_,t=>k u t
def ON(T:List TI)(ib:Array Oper)(σ:PS)(o:Oper)(t:Tr P K)(k:lh->Tr P K->R):R:=
 if wh σ o.dst then match AD ib σ o with
  |some false=>k { r:=.e (.v (.tuple #[])),rd:=(looks ib o).map σ.get } t
  |some true=>GJ t λt=>match jN P K T (Rz o.dst t) σ o with
   |some u=>OG u.ke t λt=>GJ t λt=>OU o u t λu t=>k { u with rd:=(looks ib o).map σ.get } t
   |none=>.jM
  |none=>.jM
 else .jM
def OQ(T:List TI)(ib:Array Oper)(k:List (Oper×lh)->PS->Tr P K->R):List Oper->List (Oper×lh)->PS->Tr P K->R
 | [],us,σ,t=>k us σ t
 |o::l,us,σ,t=>ON T ib σ o t λu t'=>OQ T ib k l ((o,u)::us) (σ.app o.dst u) t'
def r7(c:Bool):Tr P K->PS->(Tr P K->PS->R)->R
 | .w p t1 t2,σ,k=>.w p (λh=>r7 c (t1 h) σ k) (λh=>r7 c (t2 h) σ k)
 | .x _,_,_=>.a False .nil
 | .v d (q:=q) _ t,σ,k=>match q with
  | .e x=>if wh σ (some d)then .a (PV.le (σ.get d) (.e x)) (r7 c t (σ.put (some d) (.e x)) k)else .jM
  |_=>.jM
 | .k ts bs t,σ,k=>if c then k (.k ts bs t) σ else if GY (σ.cut ts bs)then r7 c t (σ.cut ts bs) k else .jM
 | .z id t,σ,k=>if c then k (.z id t) σ else match σ.bo id with
  |some b=>match b.as with
   |some e=>r7 c t (σ.xY id e) k
   |none=>.jM
  |none=>.jM
 | .y s id nl T sz el t,σ,k=>if c then k (.y s id nl T sz el t) σ else match σ.bo id,σ.get s with
  |none,.e (.v (.slice none 0 0))=>if !σ.nl||nl then r7 c t (σ.Df s id (.row nl T 0 sz el)) k else .jM
  |_,_=>.jM
 |t,σ,k=>k t σ
def PU(c:Code)(σ:PS)(t:Tr P K)(k:Ex->PS->Tr P K->R):R:=match t with
 | @Tr.s _ _ _ σ' τ e _ _ t=>KE σ σ' (.a (Sp P K c σ' (λe' τ'=>e'=e/\τ'=τ)) (k e τ t))
 |_=>.jM
def Ex.qC:Ex->Ex->Bool
 | .normal,.normal=>true
 | .ret,.ret=>true
 | .exit a,.exit b=>Nat.beq a b
 |_,_=>false
def Ft(e:Ex)(τ:PS)(e':Ex)(υ:PS)(_:Tr P K):R:=if Ex.qC e' e then KE υ τ .nil else .jM
def acP:Operand->Nat
 | .tmp t=>2*t
 |_=>1
def jn(c:Nat)(g:PS->Tr P K->(Ex->PS->Tr P K->R)->R)(σ:PS)(t:Tr P K)(k:Ex->PS->Tr P K->R):R:=match t with
 | .j c' τ tj t'=>if Nat.beq c' c then .a (g σ tj (Ft .normal τ)).ok (k .normal τ t')else g σ t k
 |t=>g σ t k
def ZP(f:PS->Tr P K->(Ex->PS->Tr P K->R)->R):Nat->PS->Tr P K->(Ex->PS->Tr P K->R)->R
 | 0,_,_,_=>.jM
 |n+1,σ,t,k=>r7 false t σ λt σ=>f σ t λe τ t=>match e with
  | .normal=>ZP f n τ t k
  |e=>k e τ t
def vN(T:List TI):Code->PS->Tr P K->(Ex->PS->Tr P K->R)->R
 | .skip,σ,t,k=>k .normal σ t
 | .region _ ib d,σ,t,k=>OQ T ib (λus τ t=>if !d||Eo ib 0 us.reverse then k .normal τ t else .jM) ib.toList [] σ t
 | .seq a b,σ,t,k=>vN T a σ t λe τ t=>match e with
  | .normal=>vN T b τ t k
  |e=>k e τ t
 | .cond c a b,σ,t,k=>r7 true t σ λt σ=>jn (acP c) (λσ t k=>r7 true t σ λt σ=>match σ.op c with
  | .e (.v (.bool true))=>vN T a σ t k
  | .e (.v (.bool false))=>vN T b σ t k
  |_=>.jM) σ t k
 | .block id b,σ,t,k=>r7 true t σ λt σ=>jn (2*id+1) (λσ t k=>vN T b σ t λe τ t=>match e with
  | .exit i=>if Nat.beq i id then k .normal τ t else k (.exit i) τ t
  |e=>k e τ t) σ t k
 | .exit id,σ,t,k=>r7 false t σ λt σ=>k (.exit id) σ t
 | .ret,σ,t,k=>r7 false t σ λt σ=>k .ret σ t
 | .loop b,σ,t,k=>r7 false t σ λt σ=>match t with
  | .u n t=>ZP (vN T b) n σ t k
  |t=>PU (.loop b) σ t k
 | .label _,σ,t,k=>k .normal σ t
 | .scope b,σ,t,k=>vN T b σ t k
 |_,_,_,_=>.jM
def W0{t:Tr P K}{k:Tr P K->R}(h:(GJ t k).ok):∃ t',(k t').ok:=by
 induction t with
 |w p t1 t2 F4 F5=>
  by_cases hp:p
  .exact F4 hp (h.1 hp)
  .exact F5 hp (h.2 hp)
 |x hf=>exact hf.elim
 |_=>exact⟨_,h⟩
def ai8{l:List Prop}{t:Tr P K}{k:Tr P K->R}(h:(OG l t k).ok):(∀ q,q ∈ l->q)/\∃ t',(k t').ok:=by
 induction l generalizing t with
 |nil=>exact⟨λq hq=>by simp at hq,t,h⟩
 |cons p l ih=>
  obtain⟨h1,h2⟩:=ih h.2;refine⟨λq hq=>?_,h2⟩;rcases dD.1 hq with hq|hq
  .subst hq;exact h.1
  .exact h1 q hq
variable {T:List TI} {ib:Array Oper} {σ:PS} {o:Oper}
def ajz{O:qE}{u:lh}{t:Tr P K}{k:lh->Tr P K->R}(hO:O.ov=[])(hu:jN P K T O σ o=some u)(ho:∀ q,q ∈ u.ke->q)(h:(OU o u t k).ok):
 ∃ O' u' t',uG P K T O' σ o=some u'/\(∀ q,q ∈ u'.ke->q)/\(k u' t').ok:=by
 have plain:(k u t).ok->∃ O' u' t',uG P K T O' σ o=some u'/\(∀ q,q ∈ u'.ke->q)/\(k u' t').ok:=by
  intro h;refine⟨O,u,t,?_,ho,h⟩;unfold uG;rw[hu,hO];cases o.dst<;>rfl
 unfold OU at h;split at h
 .rename_i d d' p q hpq t' hd;split at h
  .obtain ⟨h1,h2⟩:=h;refine⟨⟨O.cl,[(d,q)],O.nw⟩,_,t',?_,λx hx=>?_,h2⟩
   .unfold uG;have he:jN P K T ⟨O.cl,[(d,q)],O.nw⟩ σ o=jN P K T O σ o:=by cases O;rfl
    rw[he,hu,hd];simp[look]
   .rcases dD.1 hx with hx|hx
    .subst hx;exact h1
    .exact ho x hx
  .exact plain h
 .exact plain h
def ajd{t:Tr P K}{k:lh->Tr P K->R}(h:(ON T ib σ o t k).ok):∃ u t',(∃ O,rz P K T O ib σ o=some u)/\(∀ q,q ∈ u.ke->q)/\(k u t').ok:=by
 unfold ON at h;split at h
 .rename_i hi;split at h
  .rename_i hw;refine⟨_,t,⟨{},?_⟩,λq hq=>by simp at hq,h⟩;unfold rz;rw[bw hi,hw]
  .rename_i hw;obtain⟨t1,h1⟩:=W0 h;split at h1
   .rename_i u hu;obtain⟨ho,t2,h2⟩:=ai8 h1;obtain⟨t2,h2⟩:=W0 h2;obtain⟨O',u',t3,D7,Jn,h3⟩:=ajz (by
     unfold Rz;cases o.dst with
     |none=>rfl
     |some d=>cases t1<;>rfl) hu ho h2
    refine⟨{ u' with rd:=(looks ib o).map σ.get },t3,⟨O',?_⟩,Jn,h3⟩;unfold rz;rw[bw hi,hw,D7]
   .exact h1.elim
  .exact h.elim
 .exact h.elim
def ajo{k:List (Oper×lh)->PS->Tr P K->R}{l:List Oper}{us:List (Oper×lh)}{t:Tr P K}(h:(OQ T ib k l us σ t).ok):
 ∃ vs τ t',wN P K T ib vs σ τ/\vs.map (·.1)=l/\(∀ x,x ∈ vs->∀ q,q ∈ x.2.ke->q)/\(k (vs.reverse++us) τ t').ok:=by
 induction l generalizing us σ t with
 |nil=>exact⟨[],σ,t,sf.refl σ,rfl,λx hx=>by simp at hx,h⟩
 |cons o l ih=>
  obtain⟨u,t1,h1,h2,h3⟩:=ajd h;obtain⟨vs,τ,t',k1,k2,k3,k4⟩:=ih h3;refine⟨(o,u)::vs,τ,t',⟨h1,k1⟩,by simp[k2],λx hx=>?_,by simpa using k4⟩;rcases dD.1 hx with hx|hx
  .subst hx;exact h2
  .exact k3 x hx
def PS.le.set{σ:PS}{d:Nat}{x:E}(hd:wh σ (some d)=true)(h:PV.le (σ.get d) (.e x)):PS.le σ (σ.put (some d) (.e x)):=λw0 B a w L _ r=>by
 have B8:d<σ.n:=by simpa[wh,Nat.blt_eq]using hd
 refine⟨L,r.hd,by rw[PS.On];exact r.hs,λt=>?_,λid b hb=>r.hb id b hb,r.hv,r.hn,r.hw,r.hi,r.he,r.hl⟩;rw[PS.MC];by_cases e:d=t
 .subst e;rw[bw rfl];exact h _ _ _ _ _ (r.ht d)
 .rw [bu e];exact r.ht t
def CL{c:Bool}{t:Tr P K}{σ:PS}{k:Tr P K->PS->R}(h:(r7 c t σ k).ok):∃ t' τ,PS.le σ τ/\(k t' τ).ok:=by
 induction t generalizing σ with
 |w p t1 t2 F4 F5=>
  by_cases hp:p
  .exact F4 hp (h.1 hp)
  .exact F5 hp (h.2 hp)
 |k ts bs t ih=>
  simp only[r7]at h;split at h
  .exact ⟨_,σ,PS.le.refl σ,h⟩
  split at h
  .rename_i hr;obtain⟨t',τ,h1,h2⟩:=ih h;exact⟨t',τ,(PS.le.cut ts bs hr).trans h1,h2⟩
  .exact h.elim
 |v d h0 t ih=>
  simp only[r7]at h;split at h
  .rename_i x;split at h
   .rename_i hd;obtain⟨t',τ,h1,h2⟩:=ih h.2;exact⟨t',τ,(PS.le.set hd h.1).trans h1,h2⟩
   .exact h.elim
  .exact h.elim
 |z id t ih=>
  simp only[r7]at h;split at h
  .exact ⟨_,σ,PS.le.refl σ,h⟩
  split at h
  .rename_i b hb;split at h
   .rename_i e he;obtain⟨t',τ,h1,h2⟩:=ih h;exact⟨t',τ,(PS.le.freeze id hb he).trans h1,h2⟩
   .exact h.elim
  .exact h.elim
 |y s id nl T sz el t ih=>
  simp only[r7]at h;split at h
  .exact ⟨_,σ,PS.le.refl σ,h⟩
  split at h
  .rename_i hb hg;split at h
   .rename_i hn;obtain⟨t',τ,h1,h2⟩:=ih h;exact⟨t',τ,(PS.le.aaA s id hb hg (λe=>by rw[e]at hn;simpa using hn)).trans h1,h2⟩
   .exact h.elim
  .exact h.elim
 |x hf=>exact hf.elim
 |_=>exact⟨_,σ,PS.le.refl σ,h⟩
def anR{υ:PS}{l:List (Nat×PV)}{r:R}(h:(P0 υ l r).ok):xL υ l/\r.ok:=by
 induction l with
 |nil=>exact⟨trivial,h⟩
 |cons x l ih=>obtain⟨d,q⟩:=x;exact⟨⟨h.1,(ih h.2).1⟩,(ih h.2).2⟩
def abj{υ:PS}{l:List (Nat×Bx)}{r:R}(h:(Ij υ l r).ok):wL υ l/\r.ok:=by
 induction l with
 |nil=>exact⟨trivial,h⟩
 |cons x l ih=>
  obtain⟨d,q⟩:=x;simp only[Ij]at h;split at h
  .rename_i b hb;exact⟨⟨⟨b,hb,h.1⟩,(ih h.2).1⟩,(ih h.2).2⟩
  .exact h.elim
def Y5{υ σ:PS}{r:R}(h:(KE υ σ r).ok):PS.le υ σ/\r.ok:=by
 unfold KE at h;split at h
 .rename_i hc;simp only[ch,fO,beq_iff_eq]at hc;obtain⟨⟨h1,h2⟩,h3⟩:=hc;obtain⟨h4,h5⟩:=anR h;obtain⟨h6,h7⟩:=abj h5;refine⟨?_,h7⟩;rcases h2 with h2|h2
  .exact PS.le.ahn (ns.1 h1) h2 h3 h4 h6
  .exact PS.le.qk (ns.1 h1) h2 h3 h4 h6
 .exact h.elim
def aml(hT:na P T){w0:World}{B:Nat->Prop}{a:Act}{w:World}{L:Lk}(g:Gd P K w0 B){us:List (Oper×lh)}{τ:PS}{Q:Exit->Act->World->Prop}(h:wN P K T ib us σ τ)(ho:∀ x,x ∈ us->∀ q,q ∈ x.2.ke->q)
 (r:jI w0 B σ a w L) (hq:∀ a' w' L',jI w0 B τ a' w' L'->Q .normal a' w'):wpList P ib Q (us.map (·.1)) a w:=by
 induction us generalizing σ a w L with
 |nil=>exact hq a w L (r.qC h)
 |cons x us ih=>
  obtain⟨⟨O,h1⟩,h2⟩:=h;rw[fK];unfold wpList;rcases SU hT g r h1 (ho x aK) (wpList P ib Q (us.map (·.1))) Q (λa' w' L' hr=>ih h2 (λy hy=>ho y (by simp[hy])) hr)with⟨p1,p2⟩|⟨p1,p2⟩
  .rw [bw p1];exact .inl p2
  .rw [bu (by rw[p1];simp)];exact p2
def alw(hT:na P T)(hm:P.follows .mixedOrders=true){w0:World}{B:Nat->Prop}{a:Act}{w:World}{L:Lk}(g:Gd P K w0 B){id:Nat}{draw:Bool}{us:List (Oper×lh)}{τ:PS}{Q:Exit->Act->World->Prop}
 (h:wN P K T ib us σ τ) (hl:us.map (·.1)=ib.toList) (ho:∀ x,x ∈ us->∀ q,q ∈ x.2.ke->q) (hp:(!draw||Eo ib 0 us)=true) (r:jI w0 B σ a w L)
 (hq:∀ a' w' L',jI w0 B τ a' w' L'->Q .normal a' w'):(Code.region id ib draw).wp P Q a w:=by
 cases draw with
 |false=>exact wp_region_list (by rw[<-hl];exact aml hT g h ho r hq)
 |true=>
  obtain⟨R,r1,r2,r3⟩:=ahv hl (by simpa using hp);refine wp_region_any hm (aaE hT g hq ib.size (Array.replicate ib.size false) R σ a w.drew L r2 aK r3 (λx hx=>ho x.2 ?_) (by rw[r1];exact h) r.drew);rw[<-r1];exact dC.2 ⟨x,hx,rfl⟩
def amW{c:Code}{t:Tr P K}{k:Ex->PS->Tr P K->R}(h:(PU c σ t k).ok):Sp P K c σ (λe τ=>∃ t',(k e τ t').ok):=by
 unfold PU at h;split at h
 .obtain ⟨h1,h2,h3⟩:=Y5 h;exact Sp.pre h1 (h2.mono λe τ ⟨q1,q2⟩=>by subst q1 q2;exact⟨_,h3⟩)
 .exact h.elim
def Ex.amm{a b:Ex}(h:Ex.qC a b=true):a=b:=by
 cases a<;>cases b<;>first|rfl|(cases h;done)|exact congrArg Ex.exit (ns.1 h)
def SI{e e':Ex}{τ υ:PS}{t:Tr P K}(h:(Ft e τ e' υ t).ok):e'=e/\PS.le υ τ:=by
 unfold Ft at h;split at h
 .rename_i he;exact⟨Ex.amm he,(Y5 h).1⟩
 .exact h.elim
def Vu{c:Code}{cb:Nat}{g:PS->Tr P K->(Ex->PS->Tr P K->R)->R}(hg:∀ σ t k,(g σ t k).ok->Sp P K c σ (λe τ=>∃ t',(k e τ t').ok)){σ:PS}{t:Tr P K}{k:Ex->PS->Tr P K->R}(h:(jn cb g σ t k).ok):
 Sp P K c σ (λe τ=>∃ t',(k e τ t').ok):=by
 unfold jn at h;split at h
 .rename_i c' τ tj t;split at h
  .refine (hg _ _ _ h.1).post λe υ ⟨t',ht⟩=>?_
   obtain⟨he,hl⟩:=SI ht;exact⟨τ,hl,t,by rw[he];exact h.2⟩
  .exact hg _ _ _ h
 .exact hg _ _ _ h
def wO(P:Program)(K:World->Prop)(b:Code)(σ:PS)(Q:Ex->PS->Prop):Prop:=
 ∀ (w0:World) (B:Nat->Prop) (a:Act) (w:World) (L:Lk),Gd P K w0 B->jI w0 B σ a w L->∀ bf k cs,
  ∃ e a' w',(∃ ex τ L',e=Ex.to ex/\Q ex τ/\jI w0 B τ a' w' L')/\Arrives P (lone (bf.at a (.code b :: .inLoop b::k)) cs w) bf k cs e a' w'
def wO.loop{b:Code}{σ:PS}{Q:Ex->PS->Prop}(h:wO P K b σ Q):Sp P K (.loop b) σ Q:=by
 intro w0 B a w L g r bf k cs;obtain⟨e,a',w',hq,w8⟩:=h w0 B a w L g r bf k cs;exact⟨e,a',w',hq,.of_steps (.one step_loop) w8⟩
def wO.pre{b:Code}{σ τ:PS}{Q:Ex->PS->Prop}(h:PS.le σ τ)(k:wO P K b τ Q):wO P K b σ Q:=λw0 B a w L g r=>
 let⟨L',r'⟩:=h w0 B a w L (λb hb=>(g.hB b hb).1) r;k w0 B a w L' g r'
def wO.step{b:Code}{σ:PS}{Q:Ex->PS->Prop}(h:Sp P K b σ (λe τ=>(e = .normal/\wO P K b τ Q)\/(e ≠ .normal/\Q e τ))):wO P K b σ Q:=by
 intro w0 B a w L g r bf k cs;obtain⟨e,a₁,w₁,⟨ex,υ,L2,rfl,hq,oA⟩,w8⟩:=h w0 B a w L g r bf (.inLoop b::k) cs;rcases hq with⟨rfl,hs⟩|⟨lL,hq⟩
 .obtain ⟨e₂,a₂,w₂,Nt,MX⟩:=hs w0 B a₁ w₁ L2 g oA bf k cs;exact⟨e₂,a₂,w₂,Nt,.of_steps (Steps.trans w8 (.one step_inLoop)) MX⟩
 .cases ex with
  |normal=>exact absurd rfl lL
  |exit i=>exact⟨_,a₁,w₁,⟨.exit i,υ,L2,rfl,hq,oA⟩,.pass (x:=.inLoop b) rfl (λ_ _=>.inl (by simp[Ex.to])) w8⟩
  |ret=>exact⟨_,a₁,w₁,⟨.ret,υ,L2,rfl,hq,oA⟩,.pass (x:=.inLoop b) rfl (λ_ _=>.inl (by simp[Ex.to])) w8⟩
def Mh(hT:na P T)(hm:P.follows .mixedOrders=true){c:Code}{σ:PS}{t:Tr P K}{k:Ex->PS->Tr P K->R}(h:(vN T c σ t k).ok):Sp P K c σ (λe τ=>∃ t',(k e τ t').ok):=by
 induction c generalizing σ t k with
 |skip=>exact λw0 B a w L g r=>wp_skip ⟨.normal,_,L,rfl,⟨t,h⟩,r⟩
 |region id ib d=>
  obtain⟨vs,τ,t',h1,h2,h3,h4⟩:=ajo h;split at h4
  .rename_i hp;simp only[List.append_nil,List.reverse_reverse]at hp;exact λw0 B a w L g r=>alw hT hm g h1 h2 h3 hp r λa' w' L' hr=>⟨.normal,τ,L',rfl,⟨t',h4⟩,hr⟩
  .exact h4.elim
 |seq x y NF NG=>
  intro w0 B a w L g r;refine wp_seq (Code.wp_mono ?_ (NF h w0 B a w L g r));rintro ex a' w' ⟨e1,τ1,L',rfl,⟨t',ht⟩,hr⟩;cases e1 with
  |normal=>exact NG ht w0 B a' w' L' g hr
  |exit i=>exact⟨.exit i,τ1,L',rfl,⟨t',ht⟩,hr⟩
  |ret=>exact⟨.ret,τ1,L',rfl,⟨t',ht⟩,hr⟩
 |cond c x y NF NG=>
  obtain⟨t1,τ,hle,h1⟩:=CL h;refine Sp.pre hle (Vu (λσ t k h=>?_) h1);obtain⟨t1,τ,hle,h1⟩:=CL h;refine Sp.pre hle ?_;split at h1
  .rename_i hc;intro w0 B a w L g r;have hv:=r.op c;rw[hc]at hv;exact wp_cond_true (iN.kW hv) (NF h1 w0 B a w L g r)
  .rename_i hc;intro w0 B a w L g r;have hv:=r.op c;rw[hc]at hv;exact wp_cond_false (iN.kW hv) (NG h1 w0 B a w L g r)
  .exact h1.elim
 |block id b ih=>
  obtain⟨t1,τ,hle,h1⟩:=CL h;refine Sp.pre hle (Vu (λσ t k h=>?_) h1);intro w0 B a w L g r;refine wp_block (Code.wp_mono ?_ (ih h w0 B a w L g r));rintro ex a' w' ⟨e1,τ1,L',rfl,⟨t',ht⟩,hr⟩;cases e1 with
  |normal=>exact⟨.normal,_,L',rfl,⟨t',ht⟩,hr⟩
  |ret=>exact⟨.ret,_,L',rfl,⟨t',ht⟩,hr⟩
  |exit i=>
   simp only at ht;show Exit.inBlock id _ (.exit i) a' w';split at ht
   .rename_i hi;have hi:=ns.1 hi;subst hi;simp only[Exit.inBlock,bQ];exact⟨.normal,_,L',rfl,⟨t',ht⟩,hr⟩
   .rename_i hi;have hi:i≠id:=λe=>hi (ns.2 e)
    simp only[Exit.inBlock,hi,bJ];exact⟨.exit i,_,L',rfl,⟨t',ht⟩,hr⟩
 |label l=>exact λw0 B a w L g r=>wp_label ⟨.normal,_,L,rfl,⟨t,h⟩,r⟩
 |scope b ih=>
  intro w0 B a w L g r;refine wp_scope_straight (Code.wp_mono ?_ (ih h w0 B a w L g r));rintro ex a' w' ⟨e1,τ1,L',rfl,⟨t',ht⟩,hr⟩;cases e1 with
  |normal=>exact⟨.normal,τ1,L',rfl,⟨t',ht⟩,hr⟩
  |ret=>exact⟨.ret,τ1,L',rfl,⟨t',ht⟩,hr⟩
  |exit i=>exact⟨.exit i,τ1,L',rfl,⟨t',ht⟩,hr⟩
 |exit id=>
  obtain⟨t1,τ,hle,h1⟩:=CL h;exact Sp.pre hle λw0 B a w L g r=>wp_exit ⟨.exit id,_,L,rfl,⟨t1,h1⟩,r⟩
 |ret=>
  obtain⟨t1,τ,hle,h1⟩:=CL h;exact Sp.pre hle λw0 B a w L g r=>wp_ret ⟨.ret,_,L,rfl,⟨t1,h1⟩,r⟩
 |loop b ih=>
  obtain⟨t1,τ,hle,h1⟩:=CL h;refine Sp.pre hle ?_;split at h1
  .rename_i n t;clear hle h;refine wO.loop ?_
   induction n generalizing τ t with
   |zero=>exact h1.elim
   |succ n ihn=>
    obtain⟨t2,τ2,hle,h1⟩:=CL h1;refine wO.pre hle (wO.step ((ih h1).mono λe υ ⟨t',ht⟩=>?_));cases e with
    |normal=>exact .inl ⟨rfl,ihn _ _ ht⟩
    |exit i=>exact .inr ⟨aK,t',ht⟩
    |ret=>exact .inr ⟨aK,t',ht⟩
  .exact amW h1
 |_=>exact h.elim
def Sp.tr(hT:na P T)(hm:P.follows .mixedOrders=true){c:Code}{σ τ:PS}{e:Ex}(t:Tr P K)(h:vN T c σ t (Ft e τ)=t.ex λt=>EM τ t .nil):
 Sp P K c σ (λe' τ'=>e'=e/\τ'=τ):=by
 have hk:=Tr.Mm (fin:=λt=>EM τ t .nil) (λt=>PX trivial) t;rw[<-h]at hk;refine(Mh hT hm hk).post λe' υ ⟨t',ht⟩=>?_
 obtain⟨he,hl⟩:=SI ht;exact⟨τ,hl,he,rfl⟩
def Tc(T:List TI)(fn:Func)(ko:E)(e:Ex)(τ:PS)(_:Tr P K):R:=match e with
 | .exit _=>.jM
 |_=>match Kq T fn τ with
  |some r=>.a (E.le r ko) .nil
  |none=>.jM
def Pn(T:List TI)(fn:Func)(nl:Bool)(args:List E)(ko:E)(t:Tr P K):R:=match fn.body with
 |some c=>if Nat.ble args.length fn.ntmps then vN T c (Bi fn nl args) t (Tc T fn ko)else .jM
 |none=>.jM
def PC.P6(hT:na P T)(hm:P.follows .mixedOrders=true)(hp:∀ w w',K w->Below w.heap.size w w'->K w'){f:FuncId}{fn:Func}{args:List E}{ko:E}(xd:∀ (vs:Array Value) (w:World),(callFunc f vs).run P w = .ok (.enter f vs) w)
 (hf:P.funcs[f]? = some fn) (nl:Bool) (t:Tr P K) (h:Pn T fn nl args ko t=t.ex λ_=>.a (E.le ko ko) .nil):PC P K f args ko:=by
 have hk:=Tr.Mm (fin:=λ_=>.a (E.le ko ko) .nil) (λt=>⟨E.le.refl ko,trivial⟩) t;rw[<-h]at hk;unfold Pn at hk;split at hk
 .rename_i c hb;split at hk
  .rename_i hn;refine PC.Oi hT hm hp xd hf hb (dk hn) nl ((Mh hT hm hk).mono λe τ ⟨t',ht⟩=>?_);unfold Tc at ht;split at ht
   .exact ht.elim
   .rename_i lL;split at ht
    .rename_i r hr;refine⟨?_,r,hr,ht.1⟩;cases e with
     |normal=>exact .inr rfl
     |ret=>exact .inl rfl
     |exit i=>exact absurd rfl (lL i)
    .exact ht.elim
  .exact hk.elim
 .exact hk.elim
def Ta(fn:Func)(b:Bx)(e:Ex)(τ:PS)(_:Tr P K):R:=match e with
 | .exit _=>.jM
 |_=>match fn.results.toList with
  | [.tmp t]=>match τ.get t with
   | .own id=>match τ.bo id with
    |some c=>.a (Bx.le c b) .nil
    |none=>.jM
   |_=>.jM
  |_=>.jM
def Pm(T:List TI)(fn:Func)(args:List E)(b:Bx)(t:Tr P K):R:=match fn.body with
 |some c=>if Nat.ble args.length fn.ntmps then vN T c (Bi fn true args) t (Ta fn b)else .jM
 |none=>.jM
def vw.P6(hT:na P T)(hm:P.follows .mixedOrders=true)(hp:∀ w w',K w->Below w.heap.size w w'->K w'){f:FuncId}{fn:Func}{args:List E}{nl:Bool}{T0:TypeId}{n sz:Nat}{el:Nat->Nat->E}(xd:∀ (vs:Array Value) (w:World),(callFunc f vs).run P w = .ok (.enter f vs) w)
 (hf:P.funcs[f]? = some fn) (t:Tr P K) (h:Pm T fn args (.row nl T0 n sz el) t=t.ex λ_=>.a (Bx.le (.row nl T0 n sz el) (.row nl T0 n sz el)) .nil):vw P K f args nl T0 n sz el:=by
 have hk:=Tr.Mm (fin:=λ_=>.a (Bx.le (.row nl T0 n sz el) (.row nl T0 n sz el)) .nil) (λt=>⟨Bx.le.refl _,trivial⟩) t;rw[<-h]at hk;unfold Pm at hk;split at hk
 .rename_i c hb;split at hk
  .rename_i hn;refine vw.Oi hT hm hp xd hf hb (dk hn) true ((Mh hT hm hk).mono λe τ ⟨t',ht⟩=>?_);unfold Ta at ht;split at ht
   .exact ht.elim
   .rename_i lL;split at ht
    .rename_i t0 hr;split at ht
     .rename_i id hg;split at ht
      .rename_i c' hc;refine⟨?_,t0,id,c',hr,hg,hc,λbs br L w hk=>ht.1.2 _ _ _ _ _ hk⟩;cases e with
       |normal=>exact .inr rfl
       |ret=>exact .inl rfl
       |exit i=>exact absurd rfl (lL i)
      .exact ht.elim
     .exact ht.elim
    .exact ht.elim
  .exact hk.elim
 .exact hk.elim
def Sp.jv{b:Code}{e:Ex}{τ:PS}(f:Nat->PS)(lo hi:Nat)(h0:lo<=hi)(go:∀ x,(lo<=x/\x<=hi)->x<hi->Sp P K b (f x) (λe' υ=>e' = .normal/\υ=f (x+1)))
 (out:(lo<=hi/\hi<=hi)->Sp P K b (f hi) (λe' υ=>e'=e/\υ=τ)) (he:e ≠ .normal):Sp P K (.loop b) (f lo) (λe' υ=>e'=e/\υ=τ):=by
 refine Sp.fam f (λx=>lo<=x/\x<=hi) (λx=>hi-x) (λx hx=>?_) lo ⟨bC _,h0⟩ (PS.le.refl _);rcases Nat.lt_or_eq_of_le hx.2 with iL|heq
 .exact Sp.ae3 (x+1) (go x hx iL) ⟨aE,aE⟩ aE (PS.le.refl _)
 .subst heq;exact Sp.ae4 (out hx) he (PS.le.refl _)
def iz(z:Int)(h:-9223372036854775808<=z/\z<=9223372036854775807):Tr P K->Tr P K:=.a (p:=ku .i64 z) h
def pP(z:Int)(h:0<=z/\z<=18446744073709551615):Tr P K->Tr P K:=.a (p:=ku .u64 z) h
def iX(z:Int)(n:Nat)(h:0<=z/\z<n):Tr P K->Tr P K:=.a h
def tB(d:Nat){a b:Bool}(h:a=b):Tr P K->Tr P K:=.o d (PV.le.bool h)
def ah(d:Nat)(a:Bool)(h:a=true):Tr P K->Tr P K:=tB d h
def ai(d:Nat)(a:Bool)(h:a=false):Tr P K->Tr P K:=tB d h
def tT(d:Nat)(p:Prop)[Decidable p](h:p):Tr P K->Tr P K:=.o d (PV.le.bool (bA h))
def tF(d:Nat)(p:Prop)[Decidable p](h:¬p):Tr P K->Tr P K:=.o d (PV.le.bool (bB h))
def vD{b:Bool}(h:b=true):(!b)=false:=by rw[h];rfl
def vC{b:Bool}(h:b=false):(!b)=true:=by rw[h];rfl
def rQ(p q:E)(h:p=q):Tr P K:=.r (E.le.iM h)
def rR(q:E){p:E}(h:E.le p q):Tr P K:=.r h
def ae(l:List (Tr P K->Tr P K))(t:Tr P K):Tr P K:=l.foldr (λf t=>f t) t
def af(l:List (Tr P K->Tr P K)):Tr P K:=ae l .nil
end
end Go.Proofs.YtkjkcjhacddojaaGreatDoor.Pu
namespace Go.Proofs.YtkjkcjhacddojaaGreatDoor
open Go.RowKit Fp Pu
def tr(nl:Bool){f:FuncId}{fn:Func}{args:List E}{ko:E}(xd:∀ (vs:Array Value) (w:World),(callFunc f vs).run prog w = .ok (.enter f vs) w)
 (hf:prog.funcs[f]? = some fn) (t:Tr prog Tb) (h:Pn TT fn nl args ko t=t.ex λ_=>.a (E.le ko ko) .nil):gZ f args ko:=
 PC.P6 BO mixed Qu xd hf nl t h
def ag(args:List E){f:FuncId}{ko:E}(h:gZ f args ko):Tr prog Tb->Tr prog Tb:=.c h
def ak{f:FuncId}{fn:Func}{args:List E}{ko:E}(xd:∀ (vs:Array Value) (w:World),(callFunc f vs).run prog w = .ok (.enter f vs) w)
 (hf:prog.funcs[f]? = some fn) (t:Tr prog Tb) (h:Pn TT fn true args ko t=t.ex λ_=>.a (E.le ko ko) .nil:=by kernel_rfl):gZ f args ko:=tr true xd hf t h
def an{f:FuncId}{fn:Func}{args:List E}{ko:E}(xd:∀ (vs:Array Value) (w:World),(callFunc f vs).run prog w = .ok (.enter f vs) w)
 (hf:prog.funcs[f]? = some fn) (t:Tr prog Tb) (h:Pn TT fn false args ko t=t.ex λ_=>.a (E.le ko ko) .nil:=by kernel_rfl):gZ f args ko:=tr false xd hf t h
def iG{c:Code}{σ τ:PS}{e:Ex}(t:Tr prog Tb)(h:vN TT c σ t (Ft e τ)=t.ex λt=>EM τ t .nil):
 Sp prog Tb c σ (λe' τ'=>e'=e/\τ'=τ):=Sp.tr BO mixed t h
abbrev ju(k:Nat)(fn:Func)(σ:PS)(e:Ex)(τ:PS):Prop:=Sp prog Tb (.loop (abH k fn)) σ (λe' τ'=>e'=e/\τ'=τ)
end Go.Proofs.YtkjkcjhacddojaaGreatDoor
namespace Go.Proofs.YtkjkcjhacddojaaGreatDoor.Fp
section
variable {a b:Dy} {k:Int}
end
def af0{m gm p:Nat}{e ge K:Int}(hp:1<=p)(hg:iq gm<=p)(rB:-16384<=ge)(k1:K<=e)(k2:K<=ge)
 (h:gm*2^(ge-K).toNat<=m*2^(e-K).toNat):gm*2^(ge-K).toNat<=kT m e false p false*2^(e+jj m e p-K).toNat:=by
 have hq:kT m e false p false=m/2^jj m e p:=by unfold kT;simp
 rw[hq];have hm:=cG m (2^jj m e p);have hr:=bM m (bF (n:=jj m e p) (aG:0<2));obtain⟨k,hk⟩:∃ k,k=jj m e p:=⟨_,rfl⟩
 rw[<-hk]at hm hr ⊢;have e1:(e+(k:Int)-K).toNat=k+(e-K).toNat:= aE ;rw[e1,bE];generalize hE:2^(e-K).toNat=E at *
 have MF:0<E:=by rw[<-hE];exact bF aG 
 have hmE:m*E<(m/2^k+1)*(2^k*E):=by
  rw[<-bL];refine c9 ?_ MF;rw[ct,ck,bK];omega
 by_cases hc:e+k<=ge
 .
  have e2:(ge-K).toNat=(ge-(e+k)).toNat+(k+(e-K).toNat):= aE ;rw[e2,bE,bE 2 k,hE]at h ⊢;rw[<-bL]at h ⊢;generalize gm*2^(ge-(e+k)).toNat=g at *
  have:g<m/2^k+1:=by
   apply ca;intro h';have:=bX (2^k*E) (aE:m/2^k+1<=g);omega
  exact bX _ aE 
 .by_cases qp:k=0
  .subst qp;rw[cw,eo,ck];exact h
  .
   have hb:(iq m:Int)-p=k:=by unfold jj at hk;omega
   have sN:m≠0:=by intro h0;rw[h0]at hb;simp[iq]at hb;omega
   have h1:=sF sN;have h2:2^(iq m-1-k)<=m/2^k:=by
    rw[dq (bF aG),<-bE];exact bG (bN aG (by have:=nv sN;omega)) h1
   have h3:gm<2^p:=ln.1 hg;refine bG (bX _ (dE h3)) (bG ?_ (bX _ h2));rw[<-hE,<-bE,<-bE,<-bE];exact bN aG aE 
def TA{m gm p:Nat}{e ge K:Int}(hp:1<=p)(hg:iq gm<=p)(rB:-16384<=ge)(k1:K<=e)(k2:K<=ge)
 (h:m*2^(e-K).toNat<=gm*2^(ge-K).toNat):kT m e false p true*2^(e+jj m e p-K).toNat<=gm*2^(ge-K).toNat:=by
 have UE:kT m e false p false=m/2^jj m e p:=by unfold kT;simp
 have D4:kT m e false p true=m/2^jj m e p+if m%2^jj m e p≠0 then 1 else 0:=by unfold kT;simp
 have hm:=cG m (2^jj m e p);obtain⟨k,hk⟩:∃ k,k=jj m e p:=⟨_,rfl⟩
 rw[D4];rw[<-hk]at hm ⊢;have e1:(e+(k:Int)-K).toNat=k+(e-K).toNat:= aE ;rw[e1,bE];generalize hE:2^(e-K).toNat=E at *
 have MF:0<E:=by rw[<-hE];exact bF aG 
 by_cases hr:m%2^k=0
 .rw [bu aE,bT,<-bL];refine bG (gF ?_) h;congr 1;rw[bK];omega
 .rw [bw hr];have qp:k≠0:=by intro h0;rw[h0,cw,dj]at hr;exact hr rfl
  have iL:m/2^k*(2^k*E)<gm*2^(ge-K).toNat:=by
   refine bW ?_ h;rw[<-bL];refine c9 ?_ MF;rw[bK];omega
  by_cases hc:e+k<=ge
  .have e2:(ge-K).toNat=(ge-(e+k)).toNat+(k+(e-K).toNat):= aE ;have e3:gm*2^(ge-K).toNat=gm*2^(ge-(e+k)).toNat*(2^k*E):=by rw[e2,bE,bE 2 k,hE,bL]
   rw[e3]at iL ⊢;generalize gm*2^(ge-(e+k)).toNat=g at *
   have:m/2^k<g:=aqA iL;exact bX _ this
  .
   exfalso;have hb:(iq m:Int)-p=k:=by unfold jj at hk;omega
   have sN:m≠0:=by intro h0;rw[h0]at hr;simp at hr
   have h1:=sF sN;have pX:=nv sN;have h3:gm<2^p:=ln.1 hg;have h4:gm*2^(ge-K).toNat<=2^(iq m-1)*E:=by
    refine bG (bX _ (dE h3)) ?_;rw[<-hE,<-bE,<-bE];exact bN aG aE 
   have h5:2^(iq m-1-k)<=m/2^k:=by
    rw[dq (bF aG),<-bE];exact bG (bN aG aE) h1
   have h6:2^(iq m-1)*E<=m/2^k*(2^k*E):=by
    rw[<-bL];refine bX _ ?_;have:=bX (2^k) h5;rw[<-bE]at this;exact bG (bN aG aE) this
   omega
def P2(k:Int):Rat:=(2:Rat)^k
def nO(k:Int):0<P2 k:=Rat.zpow_pos aG 
def qF(a b:Int):P2 (a+b)=P2 a*P2 b:=Rat.zpow_add aG a b
def vv(n:Nat):P2 (n:Int)=((2^n:Nat):Rat):=by unfold P2;rw[Rat.zpow_natCast];simp
def Le:P2 0=1:=by have:=vv 0;simpa using this
def EY{e k:Int}(h:k<=e):P2 e=((2^(e-k).toNat:Nat):Rat)*P2 k:=by
 rw[<-vv,<-qF];congr 1;omega
def wu{x y:Rat}(k:Int):x*P2 k<=y*P2 k↔x<=y:=
 ⟨λh=>fm h (nO k),λh=>cL h (bZ (nO k))⟩
def sT{m n:Nat}{e f K:Int}(h1:K<=e)(h2:K<=f):(m:Rat)*P2 e<=(n:Rat)*P2 f↔m*2^(e-K).toNat<=n*2^(f-K).toNat:=by
 rw[EY h1,EY h2,<-eV,<-eV,wu,<-dt,<-dt,dF]
def Dy.q(d:Dy):Rat:=((d.num d.e:Int):Rat)*P2 d.e
def yK{d:Dy}{k:Int}(h:oq d k):d.q=((d.num k:Int):Rat)*P2 k:=by
 unfold Dy.q;rcases h with h|h
 .rw [wB h,wB h];simp
 .rw [J6 h (cI _),EY h,<-eV,Rat.intCast_mul,eB]
def qL(a b:Dy):jK a b<=0↔a.q<=b.q:=by
 obtain⟨k,ka,kb⟩:∃ k:Int,k<=a.e/\k<=b.e:=⟨min a.e b.e,aE,aE⟩
 rw[oV (.inr ka) (.inr kb),yK (.inr ka),yK (.inr kb),wu,gI]
def O4(a b:Dy):(jc a b).q=a.q+b.q:=by
 obtain⟨k,ka,kb⟩:∃ k:Int,k<=a.e/\k<=b.e:=⟨min a.e b.e,aE,aE⟩
 rw[yK (HW (.inr ka) (.inr kb)),yK (.inr ka),yK (.inr kb),KG (.inr ka) (.inr kb),Rat.intCast_add,Rat.add_mul]
def pz(a:Dy):(iU a).q = -a.q:=by
 rw[yK (E5 (.inr (cI a.e))),Gx,gJ,gK];rfl
def qW(s:Bool)(m:Nat)(e:Int):(canon s m e).q=if s then -((m:Rat)*P2 e)else(m:Rat)*P2 e:=by
 rw[yK (AI (cI e)),CH (cI e)];have:(e-e).toNat=0:= aE ;rw[this];cases s<;>simp[gJ,gK,eB]
def qX(a:Dy):a.q=if a.neg then -((a.m:Rat)*P2 a.e)else(a.m:Rat)*P2 a.e:=by
 unfold Dy.q Dy.num Dy.kr;have:(a.e-a.e).toNat=0:= aE ;rw[this];cases a.neg<;>simp[gJ,gK,eB]
def Es(a b:Dy):(lg a b).q=a.q*b.q:=by
 unfold lg;rw[qW,qX a,qX b,qF,dt];cases a.neg<;>cases b.neg<;>simp<;>grind
def r8:jD.q=0:=by rw[qX];simp[jD]
def Ke{a b:Dy}(ha:a.mF)(hb:b.mF)(h:a.q=b.q):a=b:=by
 obtain⟨k,ka,kb⟩:∃ k:Int,k<=a.e/\k<=b.e:=⟨min a.e b.e,aE,aE⟩
 refine L8 ha hb (.inr ka) (.inr kb) ?_;rw[yK (.inr ka),yK (.inr kb)]at h;have h1:=(wu (x:=((a.num k:Int):Rat)) (y:=((b.num k:Int):Rat)) k).1 (by rw[h];exact cM);have h2:=(wu (x:=((b.num k:Int):Rat)) (y:=((a.num k:Int):Rat)) k).1 (by rw[h];exact cM);rw[gI]at h1 h2;omega
def yL(n:Int):(jo n).q=(n:Rat):=by
 unfold jo;rw[yK (k:=0) (Li (cI 0)),OC (cI 0),Le];simp
def yJ(d:Dy):0<=(lF d).q/\d.q<=(lF d).q /\ -d.q<=(lF d).q/\((lF d).q=d.q\/(lF d).q = -d.q):=by
 have h:(lF d).q=(d.m:Rat)*P2 d.e:=by rw[qX];rfl
 have h0:0<=(d.m:Rat)*P2 d.e:=cv di (bZ (nO _));rw[h,qX d];cases d.neg<;>simp<;>grind
def tH(d:Dy):(0<d.jb↔0<d.q)/\(d.jb<0↔d.q<0):=by
 have h:=nO d.e;have hm:d.m≠0->0<(d.m:Rat)*P2 d.e:=λh0=>eC (fT.2 aE) h
 rw[qX];unfold Dy.jb;by_cases h0:d.m=0
 .simp [h0]
 .have:=hm h0;rw[bu h0];cases d.neg<;>simp<;>grind
def Er(a b:Dy):a.q<=(ja a b).q/\b.q<=(ja a b).q/\((ja a b).q=a.q\/(ja a b).q=b.q):=
 ⟨(qL _ _).1 (Ej a b),(qL _ _).1 (V2 a b),by unfold ja;split;exact .inr rfl;exact .inl rfl⟩
def CM(a b:Dy):(jd a b).q<=a.q/\(jd a b).q<=b.q/\((jd a b).q=a.q\/(jd a b).q=b.q):=
 ⟨(qL _ _).1 (Gj a b),(qL _ _).1 (V5 a b),by unfold jd;split;exact .inr rfl;exact .inl rfl⟩
def GM(p:Nat)(g:Rat):Prop:=∃ (m:Nat) (e:Int),iq m<=p /\ -16384<=e/\(iq m:Int)+e<=16384/\g=(m:Rat)*P2 e
def G(p:Nat)(g:Rat):Prop:=GM p g\/GM p (-g)
def GM.Gw{p:Nat}{g:Rat}(h:GM p g):0<=g:=by
 obtain⟨m,e,_,_,_,rfl⟩:=h;exact cv di (bZ (nO _))
def xK(p:Nat):GM p 0:=⟨0,0,by simp[rq],aE,by simp[rq],aK⟩
def G.neg{p:Nat}{g:Rat}(h:G p g):G p (-g):=by
 rcases h with h|h
 .exact .inr (by rw[fU];exact h)
 .exact .inl h
def G.pos{p:Nat}{g:Rat}(h:G p g)(h0:0<=g):GM p g:=by
 rcases h with h|h
 .exact h
 .have:=h.Gw;have:g=0:= aP ;rw[this];exact xK p
def Rc(k:Nat):iq (2^k)=k+1:=vz (bC _) (fk aG aE)
def xR:iq 1=1:=Rc 0
section
variable {m p:Nat} {e:Int}
def ZJ(hp:1<=p)(ij:p<=4096)(ho:mv m e false p false=true):
 GM p (((2^p-1:Nat):Rat)*P2 (16384-p))/\((2^p-1:Nat):Rat)*P2 (16384-p)<=(m:Rat)*P2 e/\∀ g,GM p g->g<=((2^p-1:Nat):Rat)*P2 (16384-p):=by
 have xk:2<=2^p:=by
  have:=bN (n:=2) aG hp;omega
 have hb:iq (2^p-1)=p:=by
  obtain⟨j,rfl⟩:∃ j,p=j+1:=⟨p-1,aE⟩
  have h2:2^(j+1)=2^j*2:=bH _ _;have h3:=bF (n:=j) (aG:0<2);exact vz aE aE 
 refine⟨⟨_,_,gF hb,aE,aE,rfl⟩,?_,?_⟩
 .obtain ⟨c1,c2⟩:=Ix m e p;unfold mv at ho;simp only[ch,cS]at ho;obtain⟨o1,o2⟩:=ho;have hq:=sF o1;have pX:=nv o1;obtain⟨K,k1,k2⟩:∃ K:Int,K<=e/\K<=16384-p:=⟨min e (16384-p),aE,aE⟩
  rw[sT k2 k1];have h1:2^(iq (kT m e false p false)-1)*2^jj m e p<=m:=bG (bX _ hq) c1;have h2:=bX (2^(e-K).toNat) h1;rw[<-bE,<-bE]at h2;refine bG (bX _ (ey _ _)) (bG ?_ h2);rw[<-bE];exact bN aG aE 
 .rintro g ⟨gm,ge,b1,b2,b3,rfl⟩;by_cases hc:ge<=16384-p
  .have:gm<2^p:=ln.1 b1;rw[sT (K:=ge) (cI _) hc];have e0:(ge-ge).toNat=0:= aE ;rw[e0,cw,cz];exact bG (aE:gm<=2^p-1) (gO _ (bF aG))
  .rw [sT (K:=16384-p) aE (cI _)];have e0:((16384:Int)-p-(16384-p)).toNat=0:= aE ;rw[e0,cw,cz];have h1:gm<2^(16384-ge).toNat:=by
    by_cases h0:gm=0
    .rw [h0];exact bF aG 
    .exact ln.1 aE 
   have h2:=c9 h1 (bF (n:=(ge-(16384-p)).toNat) (aG:0<2));by_cases hg:ge<=16384
   .rw [<-bE,show(16384-ge).toNat+(ge-(16384-(p:Int))).toNat=p by omega]at h2;omega
   .have:gm=0:=by
     rw[show(16384-ge).toNat=0 by omega]at h1;simpa using h1
    rw[this,cP];omega
def ZI(hp:1<=p)(ho:¬mv m e false p false=true):
 GM p (((kT m e false p false:Nat):Rat)*P2 (e+jj m e p))/\((kT m e false p false:Nat):Rat)*P2 (e+jj m e p)<=(m:Rat)*P2 e /\
 ∀ g,GM p g->g<=(m:Rat)*P2 e->g<=((kT m e false p false:Nat):Rat)*P2 (e+jj m e p):=by
 obtain⟨c1,c2⟩:=Ix m e p;have hk:-16384<=e+(jj m e p:Int):=by unfold jj;omega
 refine⟨?_,?_,?_⟩
 .by_cases h0:kT m e false p false=0
  .rw [h0];simpa using xK p
  .have hq:kT m e false p false<2^p:=by
    have:=Sg m e p;unfold kT;simpa using this
   unfold mv at ho;simp only[dz,h0,ff,gE,eA,cS]at ho;exact⟨_,_,ln.2 hq,hk,aE,rfl⟩
 .rw [sT (K:=e) aE (cI _)];rw[show(e-e).toNat=0 by omega,show(e+(jj m e p:Int)-e).toNat=jj m e p by omega,cw,cz];exact c1
 .rintro g ⟨gm,ge,b1,b2,b3,rfl⟩ h;obtain⟨K,k1,k2⟩:∃ K:Int,K<=e/\K<=ge:=⟨min e ge,aE,aE⟩
  rw[sT k2 k1]at h;rw[sT (K:=K) k2 aE];exact af0 hp b1 b2 k1 k2 h
def Rt(hp:1<=p)(ho:mv m e false p true=true)(g:Rat)(hg:GM p g):¬(m:Rat)*P2 e<=g:=by
 obtain⟨gm,ge,b1,b2,b3,rfl⟩:=hg;intro h;obtain⟨K,k1,k2⟩:∃ K:Int,K<=e/\K<=ge:=⟨min e ge,aE,aE⟩
 rw[sT k1 k2]at h;have h:=TA hp b1 b2 k1 k2 h;unfold mv at ho;simp only[ch,cS]at ho;obtain⟨o1,o2⟩:=ho;have hq:=sF o1;have pX:=nv o1;have h3:gm<2^iq gm:=pK gm;have h4:=c9 h3 (bF (n:=(ge-K).toNat) (aG:0<2));have h5:=bX (2^(e+(jj m e p:Int)-K).toNat) hq;rw[<-bE]at h4 h5;have h6:2^(iq gm+(ge-K).toNat)<=2^(iq (kT m e false p true)-1+(e+(jj m e p:Int)-K).toNat):=bN aG aE;omega
def Rs(hp:1<=p)(ho:¬mv m e false p true=true):
 GM p (((kT m e false p true:Nat):Rat)*P2 (e+jj m e p))/\(m:Rat)*P2 e<=((kT m e false p true:Nat):Rat)*P2 (e+jj m e p) /\
 ∀ g,GM p g->(m:Rat)*P2 e<=g->((kT m e false p true:Nat):Rat)*P2 (e+jj m e p)<=g:=by
 obtain⟨c1,c2⟩:=Ix m e p;have hk:-16384<=e+(jj m e p:Int):=by unfold jj;omega
 refine⟨?_,?_,?_⟩
 .by_cases h0:kT m e false p true=0
  .rw [h0];simpa using xK p
  .unfold mv at ho;simp only[dz,h0,ff,gE,eA,cS]at ho;rcases Nat.lt_or_eq_of_le (RS m e false p true)with hq|hq
   .exact ⟨_,_,ln.2 hq,hk,aE,rfl⟩
   .rw [hq]at ho ⊢;rw[Rc]at ho;refine⟨1,p+(e+jj m e p),by rw[xR];exact hp,aE,by rw[xR];omega,?_⟩;rw[qF (p:Int),vv p,show((1:Nat):Rat)=1 from rfl,fo]
 .rw [sT (K:=e) (cI _) aE];rw[show(e-e).toNat=0 by omega,show(e+(jj m e p:Int)-e).toNat=jj m e p by omega,cw,cz];exact c2
 .rintro g ⟨gm,ge,b1,b2,b3,rfl⟩ h;obtain⟨K,k1,k2⟩:∃ K:Int,K<=e/\K<=ge:=⟨min e ge,aE,aE⟩
  rw[sT k1 k2]at h;rw[sT (K:=K) aE k2];exact TA hp b1 b2 k1 k2 h
end
def Dn(p:Nat)(v:Rat)(D:Dy)(E:Int):Prop:=(E=0->G p D.q/\D.q<=v)/\∀ g,G p g->g<=v->E=0/\g<=D.q
def Up(p:Nat)(v:Rat)(D:Dy)(E:Int):Prop:=(E=0->G p D.q/\v<=D.q)/\∀ g,G p g->v<=g->E=0/\D.q<=g
def Dn.of{p:Nat}{v w:Rat}{D:Dy}{E:Int}(h:Dn p v D E)(k:∀ g,G p g->(g<=v↔g<=w)):Dn p w D E:=
 ⟨λe=>⟨(h.1 e).1,(k _ (h.1 e).1).1 (h.1 e).2⟩,λg hg hw=>h.2 g hg ((k g hg).2 hw)⟩
def Up.of{p:Nat}{v w:Rat}{D:Dy}{E:Int}(h:Up p v D E)(k:∀ g,G p g->(v<=g↔w<=g)):Up p w D E:=
 ⟨λe=>⟨(h.1 e).1,(k _ (h.1 e).1).1 (h.1 e).2⟩,λg hg hw=>h.2 g hg ((k g hg).2 hw)⟩
def Fh(neg:Bool)(m:Nat)(e:Int){p:Nat}(hp:1<=p)(ij:p<=4096):Dn p (canon neg m e).q (jY neg m e false p false) (jP neg m e false p false):=by
 have hv:0<=(m:Rat)*P2 e:=cv di (bZ (nO _));rw[qW];cases neg
 .
  have hE:jP false m e false p false=0:=by unfold jP;simp
  rw[hE];unfold jY;simp only[bne_self_eq_false,bS,bJ];by_cases ho:mv m e false p false=true
  .obtain ⟨t1,t2,t3⟩:=ZJ hp ij ho;rw[bw ho];(first|unfold Dn|unfold Up);rw[qW];simp only[bS,bJ];refine⟨λ_=>⟨.inl t1,t2⟩,λg hg hle=>⟨trivial,?_⟩⟩;by_cases h0:0<=g
   .exact t3 g (hg.pos h0)
   .have:=t1.Gw;grind
  .obtain ⟨t1,t2,t3⟩:=ZI hp ho;rw[bu ho];(first|unfold Dn|unfold Up);rw[qW];simp only[bS,bJ];refine⟨λ_=>⟨.inl t1,t2⟩,λg hg hle=>⟨trivial,?_⟩⟩;by_cases h0:0<=g
   .exact t3 g (hg.pos h0) hle
   .have:=t1.Gw;grind
 .unfold jY jP;simp only[Bool.bne_false,Bool.and_true,bQ];by_cases ho:mv m e false p true=true
  .rw [bw ho,bw ho];refine⟨λh=>by simp at h,λg hg hle=>?_⟩;exact absurd (show(m:Rat)*P2 e <= -g by grind) (Rt hp ho _ (hg.neg.pos aP))
  .obtain ⟨t1,t2,t3⟩:=Rs hp ho;rw[bu ho,bu ho];(first|unfold Dn|unfold Up);rw[qW];simp only[bQ];refine⟨λ_=>⟨.inr (by rw[fU];exact t1),aP⟩,λg hg hle=>⟨trivial,?_⟩⟩;have:=t3 (-g) (hg.neg.pos aP) aP 
   grind
def Fi(neg:Bool)(m:Nat)(e:Int){p:Nat}(hp:1<=p)(ij:p<=4096):Up p (canon neg m e).q (jY neg m e false p true) (jP neg m e false p true):=by
 have hv:0<=(m:Rat)*P2 e:=cv di (bZ (nO _));rw[qW];cases neg
 .unfold jY jP;simp only[Bool.bne_true,eO,Bool.and_true,bQ,bS,bJ];by_cases ho:mv m e false p true=true
  .rw [bw ho,bw ho];refine⟨λh=>by simp at h,λg hg hle=>?_⟩;exact absurd hle (Rt hp ho _ (hg.pos aP))
  .obtain ⟨t1,t2,t3⟩:=Rs hp ho;rw[bu ho,bu ho];(first|unfold Dn|unfold Up);rw[qW];simp only[bS,bJ];exact⟨λ_=>⟨.inl t1,t2⟩,λg hg hle=>⟨trivial,t3 g (hg.pos aP) hle⟩⟩
 .have hE:jP true m e false p true=0:=by unfold jP;simp
  rw[hE];unfold jY;simp only[bne_self_eq_false,bS,bJ,bQ];by_cases ho:mv m e false p false=true
  .obtain ⟨t1,t2,t3⟩:=ZJ hp ij ho;rw[bw ho];(first|unfold Dn|unfold Up);rw[qW];simp only[bQ];refine⟨λ_=>⟨.inr (by rw[fU];exact t1),aP⟩,λg hg hle=>⟨trivial,?_⟩⟩;by_cases h0:0 <= -g
   .have:=t3 (-g) (hg.neg.pos h0);grind
   .have:=t1.Gw;grind
  .obtain ⟨t1,t2,t3⟩:=ZI hp ho;rw[bu ho];(first|unfold Dn|unfold Up);rw[qW];simp only[bQ];refine⟨λ_=>⟨.inr (by rw[fU];exact t1),aP⟩,λg hg hle=>⟨trivial,?_⟩⟩;by_cases h0:0 <= -g
   .have:=t3 (-g) (hg.neg.pos h0) aP;grind
   .have:=t1.Gw;grind
def xD{d:Dy}(hd:d.mF){p:Nat}(hp:1<=p)(ij:p<=4096):Dn p d.q (jf d p false) (jx d p false):=by
 have:=Fh d.neg d.m d.e hp ij;rwa[hd.Is]at this
def u9{d:Dy}(hd:d.mF){p:Nat}(hp:1<=p)(ij:p<=4096):Up p d.q (jf d p true) (jx d p true):=by
 have:=Fi d.neg d.m d.e hp ij;rwa[hd.Is]at this
def Mz{N p:Nat}{e:Int}(hb:p<iq N){g:Rat}(hg:GM p g):g<=(N:Rat)*P2 e\/((N+1:Nat):Rat)*P2 e<=g:=by
 obtain⟨gm,ge,b1,b2,b3,rfl⟩:=hg;by_cases hc:e<=ge
 .rw [sT (K:=e) hc (cI _),sT (K:=e) (cI _) hc,show(e-e).toNat=0 by omega];omega
 .left;rw[sT (K:=ge) (cI _) aE,show(ge-ge).toNat=0 by omega,cw,cz];have h1:gm<2^p:=ln.1 b1;have h2:2^p<=N:=tD.1 hb;exact bG (dE (bW h1 h2)) (gO _ (bF aG))
def Q4{N p:Nat}{e:Int}(hb:p<iq N){x y:Rat}(x1:(N:Rat)*P2 e<x)(x2:x<((N+1:Nat):Rat)*P2 e)(y1:(N:Rat)*P2 e<y)(y2:y<((N+1:Nat):Rat)*P2 e){g:Rat}(hg:G p g):
 (g<=x↔g<=y)/\(x<=g↔y<=g)/\(g <= -x↔g <= -y)/\(-x<=g ↔ -y<=g):=by
 have hv:0<=(N:Rat)*P2 e:=cv di (bZ (nO _));have hG:∀ g,G p g->g<=(N:Rat)*P2 e\/((N+1:Nat):Rat)*P2 e<=g:=by
  intro g hg;by_cases h0:0<=g
  .exact Mz hb (hg.pos h0)
  .left;grind
 have h1:=hG g hg;have h2:=hG (-g) hg.neg;generalize (N:Rat)*P2 e=A at *
 generalize ((N+1:Nat):Rat)*P2 e=B at *
 refine⟨?_,?_,?_,?_⟩<;>constructor<;>intro h<;>grind
def Dt{N p:Nat}(E:Int)(hb:p<iq N)(neg up:Bool):jY neg N E true p up=jY neg (2*N+1) (E-1) false p up/\jP neg N E true p up=jP neg (2*N+1) (E-1) false p up:=by
 have h1:(2*N+1)/2^1=N:= aE ;have h:=Iw (N:=2*N+1) (E:=E-1) (more:=false) (d:=1) (p:=p) neg up (by rw[h1];exact hb);have h2:decide ((2*N+1)%2^1≠0)=true:= aK ;rw[h1,h2,(aE:E-1+((1:Nat):Int)=E)]at h;exact h
def LZ{a b:Dy}(b0:b.m≠0){p:Nat}(hp:1<=p)(ij:p<=4096):Dn p (a.q/b.q) (kG a b p false) (nF a b p false)/\Up p (a.q/b.q) (kG a b p true) (nF a b p true):=by
 by_cases a0:a.m=0
 .have hq:a.q=0:=by rw[qX,a0];simp
  have h0:(0:Rat)/b.q=0:=by rw[cX,apF]
  unfold kG nF;rw[hq,h0,bw a0,bw a0,bw a0,bw a0];have hz:G p 0:=.inl (xK p);exact⟨⟨λ_=>⟨by rw[r8];exact hz,by rw[r8];exact cM⟩,λg _ h=>⟨rfl,by rw[r8];exact h⟩⟩,⟨λ_=>⟨by rw[r8];exact hz,by rw[r8];exact cM⟩,λg _ h=>⟨rfl,by rw[r8];exact h⟩⟩⟩
 .have hb:=L3 a0 b0 p 2 aG ;unfold kG nF;rw[bu a0,bu a0,bu a0,bu a0];generalize hk:kz a b p 2=k at *
  generalize hs:(a.neg != b.neg)=s;generalize hE:a.e-b.e-(k:Int)=E0;have hB:(0:Rat)<(b.m:Rat):=fT.2 aE;have TK:=nO b.e;have hP:=nO E0;obtain⟨w,hw⟩:∃ w:Rat,w=(a.m:Rat)*P2 a.e/((b.m:Rat)*P2 b.e):=⟨_,rfl⟩
  have UR:w*((b.m:Rat)*P2 b.e)=(a.m:Rat)*P2 a.e:=by
   have:(b.m:Rat)*P2 b.e≠0:=by have:=eC hB TK;grind
   rw[hw];exact dN this
  have lP:a.q/b.q=if s then -w else w:=by
   have B7:b.q≠0:=by
    have:=eC hB TK;rw[qX b];cases b.neg<;>simp<;>grind
   have hq:(if s then -w else w)*b.q=a.q:=by
    rw[qX a,qX b,<-hs,<-UR];cases a.neg<;>cases b.neg<;>simp<;>grind
   rw[<-hq,aqh B7]
  have M5:=cG (a.m*2^k) b.m;have hr:=bM (a.m*2^k) (aE:0<b.m);generalize hN:a.m*2^k/b.m=N at *
  generalize hR:a.m*2^k%b.m=R at *
  have agq:(b.m:Rat)*(N:Rat)+(R:Rat)=(a.m:Rat)*((2^k:Nat):Rat):=by rw[<-dt,<-dt,<-eD,M5]
  have hae:P2 a.e=((2^k:Nat):Rat)*P2 b.e*P2 E0:=by rw[<-vv,<-qF,<-qF];congr 1;omega
  have Jz:w*(b.m:Rat)=((b.m:Rat)*(N:Rat)+(R:Rat))*P2 E0:=by
   have:w*(b.m:Rat)*P2 b.e=((b.m:Rat)*(N:Rat)+(R:Rat))*P2 E0*P2 b.e:=by
    rw[agq,eV,UR,hae];grind
   have lL:P2 b.e≠0:= aP ;have h2:=congrArg (· / P2 b.e) this;simp only[aqh lL]at h2;exact h2
  by_cases h0:R=0
  .have Jy:w=(N:Rat)*P2 E0:=by
    rw[h0]at Jz;have lL:(b.m:Rat)≠0:= aP ;have h2:w*(b.m:Rat)=((N:Rat)*P2 E0)*(b.m:Rat):=by rw[Jz];simp;grind
    have h3:=congrArg (· / (b.m:Rat)) h2;simp only[aqh lL]at h3;exact h3
   have hc:a.q/b.q=(canon s N E0).q:=by rw[lP,qW,Jy]
   rw[hc,bB (by simpa using h0)];exact⟨Fh _ _ _ hp ij,Fi _ _ _ hp ij⟩
  .have vU:(0:Rat)<(R:Rat):=fT.2 aE ;have hRb:(R:Rat)<(b.m:Rat):=Rat.natCast_lt_natCast.2 hr;have w1:(N:Rat)*P2 E0<w:=by
    apply aqB (c:=(b.m:Rat)) _ (bZ hB);rw[Jz];have:=eC vU hP
    grind
   have w2:w<((N+1:Nat):Rat)*P2 E0:=by
    apply aqB (c:=(b.m:Rat)) _ (bZ hB);rw[Jz,eD];have:=eC (show(0:Rat)<(b.m:Rat)-(R:Rat)by grind) hP;simp
    grind
   have hh:P2 E0=2*P2 (E0-1):=by
    rw[EY (aE:E0-1<=E0),show(E0-(E0-1)).toNat=1 by omega];simp
   have v1:(N:Rat)*P2 E0<((2*N+1:Nat):Rat)*P2 (E0-1):=by
    have:=nO (E0-1);rw[hh,eD,dt];simp;grind
   have v2:((2*N+1:Nat):Rat)*P2 (E0-1)<((N+1:Nat):Rat)*P2 E0:=by
    have:=nO (E0-1);rw[hh,eD,dt,eD];simp;grind
   rw[bA (by simpa using h0),(Dt E0 hb s false).1,(Dt E0 hb s false).2,(Dt E0 hb s true).1,(Dt E0 hb s true).2,lP];have A:=Fh s (2*N+1) (E0-1) hp ij;have B:=Fi s (2*N+1) (E0-1) hp ij;rw[qW]at A B;refine⟨A.of λg hg=>?_,B.of λg hg=>?_⟩
   .obtain ⟨k1,k2,k3,k4⟩:=Q4 hb v1 v2 w1 w2 hg;cases s
    .exact k1
    .exact k3
   .obtain ⟨k1,k2,k3,k4⟩:=Q4 hb v1 v2 w1 w2 hg;cases s
    .exact k2
    .exact k4
def Iv.ki(x:Iv)(r:Rat):Prop:=x.all=true\/(x.lo.q<=r/\r<=x.hi.q)
def Sub(x y:Iv):Prop:=y.all=true\/(x.all=false/\y.lo.q<=x.lo.q/\x.hi.q<=y.hi.q)
def Sub.ki{x y:Iv}(h:Sub x y){r:Rat}(k:x.ki r):y.ki r:=by
 rcases h with h|⟨h1,h2,h3⟩
 .exact .inl h
 .rcases k with k|⟨k1,k2⟩
  .rw [h1]at k;cases k
  .exact .inr ⟨aP,aP⟩
def Sub.xp{x y:Iv}(h:Sub x y)(k:y.all=false):x.all=false/\y.lo.q<=x.lo.q/\x.hi.q<=y.hi.q:=by
 rcases h with h|h
 .rw [h]at k;cases k
 .exact h
def Iv.ik.q{x:Iv}(h:x.ik):x.lo.q<=x.hi.q:=by
 rcases h with⟨_,h2,h3⟩|⟨_,_,_,h⟩
 .rw [h2,h3];exact cM
 .exact (qL _ _).1 h
def Iv.ik.AR{x:Iv}(h:x.ik):x.lo.mF/\x.hi.mF:=by
 rcases h with⟨_,h2,h3⟩|⟨_,h2,h3,_⟩
 .rw [h2,h3];exact⟨q6.canon,q6.canon⟩
 .exact ⟨h2.canon,h3.canon⟩
def Iv.ik.A5{x:Iv}(h:x.ik):x.ki x.lo.q:=.inr ⟨cM,h.q⟩
def Iv.ik.A4{x:Iv}(h:x.ik):x.ki x.hi.q:=.inr ⟨h.q,cM⟩
structure EV(p:Nat)(S:Rat->Prop)(X:Iv):Prop where
 ki:∀ r,S r->X.ki r
 on:X.all=false->G p X.lo.q/\G p X.hi.q
 yA:∀ L U,G p L->G p U->(∀ r,S r->L<=r/\r<=U)->X.all=false/\L<=X.lo.q/\X.hi.q<=U
def Ll{x y:Iv}(hx:x.ik)(hy:y.ik)(xa:x.all=false)(ya:y.all=false){p:Nat}(hp:1<=p)(ij:p<=4096):
 EV p (λr=>∃ a b,x.ki a/\y.ki b/\r=a+b) (kI x y p):=by
 have A:=xD (BW hx.AR.1 hy.AR.1) hp ij;have B:=u9 (BW hx.AR.2 hy.AR.2) hp ij;rw[O4]at A B;unfold kI kX;rw[xa,ya];simp only[apE,bS,bJ];have ki:∀ r,(∃ a b,x.ki a/\y.ki b/\r=a+b)->x.lo.q+y.lo.q<=r/\r<=x.hi.q+y.hi.q:=by
  rintro r ⟨a,b,ha,hb,rfl⟩;rcases ha with ha|ha
  .rw [xa]at ha;cases ha
  .rcases hb with hb|hb
   .rw [ya]at hb;cases hb
   .grind
 have yA:∀ L U,G p L->G p U->(∀ r,(∃ a b,x.ki a/\y.ki b/\r=a+b)->L<=r/\r<=U) ->
  (jx (jc x.lo y.lo) p false=0/\L<=(jf (jc x.lo y.lo) p false).q)/\jx (jc x.hi y.hi) p true=0/\(jf (jc x.hi y.hi) p true).q<=U:=λL U hL hU h=>
  ⟨A.2 L hL (h _ ⟨_,_,hx.A5,hy.A5,rfl⟩).1,B.2 U hU (h _ ⟨_,_,hx.A4,hy.A4,rfl⟩).2⟩
 split
 .rename_i he;refine⟨λ_ _=>.inl rfl,λh=>absurd h aG,λL U hL hU h=>?_⟩;obtain⟨⟨e1,_⟩,e2,_⟩:=yA L U hL hU h;rcases he with he|he
  .exact absurd e1 he
  .exact absurd e2 he
 .rename_i he;obtain⟨a1,a2⟩:=A.1 aE;obtain⟨b1,b2⟩:=B.1 aE;refine⟨λr hr=>.inr ?_,λ_=>⟨a1,b1⟩,λL U hL hU h=>?_⟩
  .obtain ⟨h1,h2⟩:=ki r hr;exact⟨b9 a2 h1,b9 h2 b2⟩
  .obtain ⟨⟨_,e1⟩,_,e2⟩:=yA L U hL hU h;exact⟨rfl,e1,e2⟩
def Ia{x y:Iv}(p:Nat)(h:x.all=true\/y.all=true):kI x y p=iu:=by
 unfold kI;rw[bw (by rcases h with h|h<;>rw[h]<;>simp)]
def AK{x y:Iv}(hx:x.ik)(hy:y.ik){p:Nat}(hp:1<=p)(ij:p<=4096){a b:Rat}(ha:x.ki a)(hb:y.ki b):(kI x y p).ki (a+b):=by
 cases xa:x.all
 .cases ya:y.all
  .exact (Ll hx hy xa ya hp ij).ki _ ⟨a,b,ha,hb,rfl⟩
  .rw [Ia p (.inr ya)];exact .inl rfl
 .rw [Ia p (.inl xa)];exact .inl rfl
def Tg{p:Nat}{D:Dy->Dy->Bool->Dy}{E:Dy->Dy->Bool->Int}{f:Rat->Rat->Rat}{x y:Iv}{S:Rat->Prop}
 (hD:∀ a b,(a=x.lo\/a=x.hi)->(b=y.lo\/b=y.hi)->Dn p (f a.q b.q) (D a b false) (E a b false)/\Up p (f a.q b.q) (D a b true) (E a b true)/\S (f a.q b.q))
 (hS:∀ r,S r->(f x.lo.q y.lo.q<=r\/f x.lo.q y.hi.q<=r\/f x.hi.q y.lo.q<=r\/f x.hi.q y.hi.q<=r)/\(r<=f x.lo.q y.lo.q\/r<=f x.lo.q y.hi.q\/r<=f x.hi.q y.lo.q\/r<=f x.hi.q y.hi.q)):
 EV p S (mL D E x y):=by
 obtain⟨a1,a2,a3⟩:=hD x.lo y.lo (.inl rfl) (.inl rfl);obtain⟨b1,b2,b3⟩:=hD x.lo y.hi (.inl rfl) (.inr rfl);obtain⟨c1,c2,c3⟩:=hD x.hi y.lo (.inr rfl) (.inl rfl);obtain⟨d1,d2,d3⟩:=hD x.hi y.hi (.inr rfl) (.inr rfl);have yA:∀ L U,G p L->G p U->(∀ r,S r->L<=r/\r<=U) ->
  ((E x.lo y.lo false=0/\L<=(D x.lo y.lo false).q)/\E x.lo y.lo true=0/\(D x.lo y.lo true).q<=U)/\((E x.lo y.hi false=0/\L<=(D x.lo y.hi false).q)/\E x.lo y.hi true=0/\(D x.lo y.hi true).q<=U) /\
  ((E x.hi y.lo false=0/\L<=(D x.hi y.lo false).q)/\E x.hi y.lo true=0/\(D x.hi y.lo true).q<=U)/\((E x.hi y.hi false=0/\L<=(D x.hi y.hi false).q)/\E x.hi y.hi true=0/\(D x.hi y.hi true).q<=U):=λL U hL hU h=>
  ⟨⟨a1.2 L hL (h _ a3).1,a2.2 U hU (h _ a3).2⟩,⟨b1.2 L hL (h _ b3).1,b2.2 U hU (h _ b3).2⟩,⟨c1.2 L hL (h _ c3).1,c2.2 U hU (h _ c3).2⟩,⟨d1.2 L hL (h _ d3).1,d2.2 U hU (h _ d3).2⟩⟩
 unfold mL;split
 .rename_i he;obtain⟨⟨e1,e2⟩,⟨e3,e4⟩,⟨e5,e6⟩,⟨e7,e8⟩⟩:=he;obtain⟨ga,la⟩:=a1.1 e1;obtain⟨gA,lA⟩:=a2.1 e2;obtain⟨gb,lb⟩:=b1.1 e3;obtain⟨gB,lB⟩:=b2.1 e4;obtain⟨gc,lc⟩:=c1.1 e5;obtain⟨gC,lC⟩:=c2.1 e6;obtain⟨gd,ld⟩:=d1.1 e7;obtain⟨gD,lD⟩:=d2.1 e8;obtain⟨m1,m2,m3⟩:=CM (D x.lo y.lo false) (D x.lo y.hi false);obtain⟨m4,m5,m6⟩:=CM (jd (D x.lo y.lo false) (D x.lo y.hi false)) (D x.hi y.lo false);obtain⟨m7,m8,m9⟩:=CM (jd (jd (D x.lo y.lo false) (D x.lo y.hi false)) (D x.hi y.lo false)) (D x.hi y.hi false);obtain⟨n1,n2,n3⟩:=Er (D x.lo y.lo true) (D x.lo y.hi true);obtain⟨n4,n5,n6⟩:=Er (ja (D x.lo y.lo true) (D x.lo y.hi true)) (D x.hi y.lo true);obtain⟨n7,n8,n9⟩:=Er (ja (ja (D x.lo y.lo true) (D x.lo y.hi true)) (D x.hi y.lo true)) (D x.hi y.hi true);generalize (jd (D x.lo y.lo false) (D x.lo y.hi false))=u1 at *
  generalize (jd u1 (D x.hi y.lo false))=u2 at *
  generalize (jd u2 (D x.hi y.hi false))=u3 at *
  generalize (ja (D x.lo y.lo true) (D x.lo y.hi true))=v1 at *
  generalize (ja v1 (D x.hi y.lo true))=v2 at *
  generalize (ja v2 (D x.hi y.hi true))=v3 at *
  refine⟨λr hr=>.inr ?_,λ_=>⟨?_,?_⟩,λL U hL hU h=>⟨rfl,?_,?_⟩⟩
  .obtain ⟨h1,h2⟩:=hS r hr;constructor
   .show u3.q<=r;rcases h1 with h1|h1|h1|h1<;>grind
   .show r<=v3.q;rcases h2 with h1|h1|h1|h1<;>grind
  .show G p u3.q;rcases m9 with h|h
   .rw [h];rcases m6 with h|h
    .rw [h];rcases m3 with h|h<;>rw[h]<;>assumption
    .rw [h];assumption
   .rw [h];assumption
  .show G p v3.q;rcases n9 with h|h
   .rw [h];rcases n6 with h|h
    .rw [h];rcases n3 with h|h<;>rw[h]<;>assumption
    .rw [h];assumption
   .rw [h];assumption
  .obtain ⟨⟨⟨_,k1⟩,_,k2⟩,⟨⟨_,k3⟩,_,k4⟩,⟨⟨_,k5⟩,_,k6⟩,⟨⟨_,k7⟩,_,k8⟩⟩:=yA L U hL hU h;show L<=u3.q;rcases m9 with h|h
   .rw [h];rcases m6 with h|h
    .rw [h];rcases m3 with h|h<;>rw[h]<;>assumption
    .rw [h];assumption
   .rw [h];assumption
  .obtain ⟨⟨⟨_,k1⟩,_,k2⟩,⟨⟨_,k3⟩,_,k4⟩,⟨⟨_,k5⟩,_,k6⟩,⟨⟨_,k7⟩,_,k8⟩⟩:=yA L U hL hU h;show v3.q<=U;rcases n9 with h|h
   .rw [h];rcases n6 with h|h
    .rw [h];rcases n3 with h|h<;>rw[h]<;>assumption
    .rw [h];assumption
   .rw [h];assumption
 .rename_i he;refine⟨λ_ _=>.inl rfl,λh=>absurd h aG,λL U hL hU h=>?_⟩;obtain⟨⟨⟨k1,_⟩,k2,_⟩,⟨⟨k3,_⟩,k4,_⟩,⟨⟨k5,_⟩,k6,_⟩,⟨⟨k7,_⟩,k8,_⟩⟩:=yA L U hL hU h;exact absurd ⟨⟨k1,k2⟩,⟨k3,k4⟩,⟨k5,k6⟩,k7,k8⟩ he
def RO{a b c d x y:Rat}(h1:a<=x)(h2:x<=b)(h3:c<=y)(h4:y<=d):
 (a*c<=x*y\/a*d<=x*y\/b*c<=x*y\/b*d<=x*y)/\(x*y<=a*c\/x*y<=a*d\/x*y<=b*c\/x*y<=b*d):=by
 have mono:∀ {u v w:Rat},u<=v->0<=w->u*w<=v*w:=λh k=>cL h k
 have anti:∀ {u v w:Rat},u<=v->w<=0->v*w<=u*w:=by
  intro u v w h k;have:=mono h (show 0 <= -w by grind)
  grind
 have side:∀ t:Rat,(t*c<=t*y\/t*d<=t*y)/\(t*y<=t*c\/t*y<=t*d):=by
  intro t;rw[fV t c,fV t d,fV t y];rcases Rat.le_total (a:=0) (b:=t)with h|h
  .exact ⟨.inl (mono h3 h),.inr (mono h4 h)⟩
  .exact ⟨.inr (anti h4 h),.inl (anti h3 h)⟩
 have sa:=side a;have sb:=side b;rcases Rat.le_total (a:=0) (b:=y)with h|h
 .have m1:=mono h1 h;have m2:=mono h2 h;clear mono anti side;constructor
  .rcases sa.1 with k|k<;>grind
  .rcases sb.2 with k|k<;>grind
 .have m1:=anti h1 h;have m2:=anti h2 h;clear mono anti side;constructor
  .rcases sb.1 with k|k<;>grind
  .rcases sa.2 with k|k<;>grind
def Iv.ki.kp{x:Iv}{r:Rat}(h:x.ki r)(k:x.all=false):x.lo.q<=r/\r<=x.hi.q:=by
 rcases h with h|h
 .rw [k]at h;cases h
 .exact h
def AP(a b:Dy):(lg a b).mF:=ru _ _ _
def Oj{x y:Iv}(hx:x.ik)(hy:y.ik)(xa:x.all=false)(ya:y.all=false){p:Nat}(hp:1<=p)(ij:p<=4096):
 EV p (λr=>∃ a b,x.ki a/\y.ki b/\r=a*b) (jt x y p):=by
 unfold jt;rw[xa,ya];simp only[apE,bS,bJ];refine Tg (f:=λa b=>a*b) (λa b ha hb=>⟨?_,?_,a.q,b.q,?_,?_,rfl⟩) (λr ⟨a,b,ha,hb,e⟩=>?_)
 .have:=xD (AP a b) hp ij;rwa[Es]at this
 .have:=u9 (AP a b) hp ij;rwa[Es]at this
 .rcases ha with rfl|rfl;exact hx.A5;exact hx.A4
 .rcases hb with rfl|rfl;exact hy.A5;exact hy.A4
 .obtain ⟨h1,h2⟩:=ha.kp xa;obtain⟨h3,h4⟩:=hb.kp ya;rw[e];exact RO h1 h2 h3 h4
def JV{x y:Iv}(p:Nat)(h:x.all=true\/y.all=true):jt x y p=iu:=by
 unfold jt;rw[bw (by rcases h with h|h<;>rw[h]<;>simp)]
def Ol{x y:Iv}(hx:x.ik)(hy:y.ik){p:Nat}(hp:1<=p)(ij:p<=4096){a b:Rat}(ha:x.ki a)(hb:y.ki b):(jt x y p).ki (a*b):=by
 cases xa:x.all
 .cases ya:y.all
  .exact (Oj hx hy xa ya hp ij).ki _ ⟨a,b,ha,hb,rfl⟩
  .rw [JV p (.inr ya)];exact .inl rfl
 .rw [JV p (.inl xa)];exact .inl rfl
def NM{b c:Rat}(h0:0<c)(h:c<=b):b⁻¹<=c⁻¹:=by
 have hb:0<b:= aP ;apply fm (c:=b*c) _ (eC hb h0);have e1:b⁻¹*(b*c)=c:=by rw[<-eV,apG _ aP,fo]
 have e2:c⁻¹*(b*c)=b:=by rw[fV b c,<-eV,apG _ aP,fo]
 rw[e1,e2];exact h
def Wv(b:Rat):(-b)⁻¹ = -b⁻¹:=by
 by_cases h:b=0
 .rw [h];simp
 .have h1:(-b)⁻¹*(-b)=1:=apG _ aP ;have h2:b⁻¹*b=1:=apG _ h;have h3:(-b)⁻¹*(-b)*b⁻¹=b⁻¹:=by rw[h1,fo]
  grind
def Vc{b c:Rat}(h0:b<0)(h:c<=b):b⁻¹<=c⁻¹:=by
 have:=NM (b:=-c) (c:=-b) aP aP;rw[Wv,Wv]at this
 grind
def YT{y:Iv}(_hy:y.ik)(h:lZ y≠0):y.all=false/\(0<y.lo.q\/y.hi.q<0):=by
 unfold lZ at h;cases ya:y.all
 .rw [ya]at h;simp only[bS,bJ]at h;refine⟨rfl,?_⟩;split at h
  .rename_i h1;exact .inl ((tH _).1.1 h1)
  .split at h
   .rename_i h1;exact .inr ((tH _).2.1 h1)
   .exact absurd rfl h
 .rw [ya]at h;simp at h
def PR{y:Iv}(ya:y.all=false)(h:0<y.lo.q\/y.hi.q<0):lZ y≠0:=by
 unfold lZ;rw[ya];simp only[bS,bJ];rcases h with h|h
 .rw [bw ((tH _).1.2 h)];decide
 .split
  .decide
  .rw [bw ((tH _).2.2 h)];decide
def ah0{d:Dy}(h:d.q≠0):d.m≠0:=by
 intro h0;apply h;rw[qX,h0];simp
def IC{x y:Iv}(hx:x.ik)(hy:y.ik)(xa:x.all=false)(hs:lZ y≠0){p:Nat}(hp:1<=p)(ij:p<=4096):
 EV p (λr=>∃ a b,x.ki a/\y.ki b/\r=a/b) (jT x y p):=by
 obtain⟨ya,h0⟩:=YT hy hs;have hle:=hy.q;unfold jT;rw[xa,ya,bB hs];simp only[apE,bS,bJ];refine Tg (f:=λa b=>a/b) (λa b ha hb=>?_) (λr ⟨a,b,ha,hb,e⟩=>?_)
 .have b0:b.m≠0:=ah0 (by rcases hb with rfl|rfl<;>grind);obtain⟨h1,h2⟩:=LZ (a:=a) b0 hp ij;refine⟨h1,h2,a.q,b.q,?_,?_,rfl⟩
  .rcases ha with rfl|rfl;exact hx.A5;exact hx.A4
  .rcases hb with rfl|rfl;exact hy.A5;exact hy.A4
 .obtain ⟨h1,h2⟩:=ha.kp xa;obtain⟨h3,h4⟩:=hb.kp ya;have i1:y.hi.q⁻¹<=b⁻¹:=by
   rcases h0 with h0|h0
   .exact NM aP h4
   .exact Vc aP h4
  have i2:b⁻¹<=y.lo.q⁻¹:=by
   rcases h0 with h0|h0
   .exact NM h0 h3
   .exact Vc aP h3
  obtain⟨k1,k2⟩:=RO h1 h2 i1 i2;rw[e];simp only[cX];exact⟨aP,aP⟩
def Fl{x y:Iv}(p:Nat)(h:x.all=true\/lZ y=0):jT x y p=iu:=by
 unfold jT;rw[bw (by rcases h with h|h<;>rw[h]<;>simp)]
def ID{x y:Iv}(hx:x.ik)(hy:y.ik){p:Nat}(hp:1<=p)(ij:p<=4096){a b:Rat}(ha:x.ki a)(hb:y.ki b):(jT x y p).ki (a/b):=by
 cases xa:x.all
 .by_cases hs:lZ y=0
  .rw [Fl p (.inr hs)];exact .inl rfl
  .exact (IC hx hy xa hs hp ij).ki _ ⟨a,b,ha,hb,rfl⟩
 .rw [Fl p (.inl xa)];exact .inl rfl
def CC{x:Iv}(h:x.lo.q<=x.hi.q):x.hi.q<=(kS x).q /\ -x.lo.q<=(kS x).q/\((kS x).q=x.hi.q\/(kS x).q = -x.lo.q):=by
 obtain⟨a1,a2,a3,a4⟩:=yJ x.lo;obtain⟨b1,b2,b3,b4⟩:=yJ x.hi;obtain⟨c1,c2,c3⟩:=Er (lF x.lo) (lF x.hi);unfold kS;generalize (ja (lF x.lo) (lF x.hi)).q=M at *
 refine⟨aP,aP,?_⟩;rcases c3 with c3|c3
 .rcases a4 with a4|a4
  .grind
  .grind
 .rcases b4 with b4|b4
  .grind
  .grind
def ah4{x x':Iv}(hx:x.ik)(Bd:x'.ik)(h:Sub x x')(xa:x'.all=false):(kS x).q<=(kS x').q:=by
 obtain⟨h1,h2,h3⟩:=h.xp xa;obtain⟨a1,a2,a3⟩:=CC hx.q;obtain⟨b1,b2,b3⟩:=CC Bd.q
 grind
def Oh{x:Iv}(hx:x.ik)(xa:x.all=false):0<=(nK x).q/\(x.lo.q<=0->0<=x.hi.q->(nK x).q=0)/\(0<x.lo.q->(nK x).q=x.lo.q)/\(x.hi.q<0->(nK x).q = -x.hi.q):=by
 have hle:=hx.q;obtain⟨a1,a2,a3,a4⟩:=yJ x.lo;obtain⟨b1,b2,b3,b4⟩:=yJ x.hi;obtain⟨c1,c2,c3⟩:=CM (lF x.lo) (lF x.hi);by_cases hs:lZ x=0
 .have hn:¬(0<x.lo.q\/x.hi.q<0):=λh=>PR xa h hs
  have:nK x=jD:=by unfold nK;rw[bw hs]
  rw[this,r8];refine⟨cM,λ_ _=>rfl,λh=>absurd (.inl h) hn,λh=>absurd (.inr h) hn⟩
 .obtain ⟨_,h0⟩:=YT hx hs;have:nK x=jd (lF x.lo) (lF x.hi):=by unfold nK;rw[bu hs]
  rw[this];generalize (jd (lF x.lo) (lF x.hi)).q=M at *
  generalize (lF x.lo).q=u at *
  generalize (lF x.hi).q=v at *
  refine⟨aP,aP,aP,aP⟩
def ape{x x':Iv}(hx:x.ik)(Bd:x'.ik)(h:Sub x x'):Sub (jh x) (jh x'):=by
 cases xa:x'.all
 .obtain ⟨h1,h2,h3⟩:=h.xp xa;unfold jh;rw[h1,xa];refine .inr ⟨rfl,?_,ah4 hx Bd h xa⟩;show(nK x').q<=(nK x).q;obtain⟨a1,a2,a3,a4⟩:=Oh hx h1;obtain⟨b1,b2,b3,b4⟩:=Oh Bd xa;have:=hx.q;by_cases c1:0<x'.lo.q
  .rw [b3 c1,a3 aP];exact h2
  .by_cases c2:x'.hi.q<0
   .rw [b4 c2,a4 aP];grind
   .rw [b2 aP aP];exact a1
 .refine .inl ?_;unfold jh;rw[bw xa];rfl
def H8{x:Iv}(hx:x.ik){r s:Rat}(h:x.ki r)(hs:s=r/\0<=r\/s = -r/\r<=0):(jh x).ki s:=by
 unfold jh;cases xa:x.all
 .obtain ⟨h1,h2⟩:=h.kp xa;obtain⟨a1,a2,a3⟩:=CC hx.q;obtain⟨b1,b2,b3,b4⟩:=Oh hx xa;refine .inr ⟨?_,?_⟩
  .show (nK x).q<=s;by_cases c1:0<x.lo.q
   .rw [b3 c1];grind
   .by_cases c2:x.hi.q<0
    .rw [b4 c2];grind
    .rw [b2 aP aP];grind
  .show s<=(kS x).q
   grind
 .exact .inl rfl
def OW(d:Dy):(mi d).ki d.q:=.inr ⟨cM,cM⟩
def Ah(n:Int):(iS n).ki (n:Rat):=by have:=OW (jo n);rwa[yL]at this
end Go.Proofs.YtkjkcjhacddojaaGreatDoor.Fp
namespace Go.Proofs.YtkjkcjhacddojaaGreatDoor
open Go.RowKit Fp Pu
abbrev jR(xs:List Iv):Nat->Nat->E:=λi j=>(iZ (xs.getD i iu)).getD j .any
abbrev mr(M:List (List Iv)):Nat->Nat:=λq=>(M.getD q []).length
abbrev oF(M:List (List Iv)):Nat->Nat->Nat->E:=λq i j=>(iZ ((M.getD q []).getD i iu)).getD j .any
def Cu(x:Iv)(j:Nat)(hj:j<7):((iZ x).getD j .any).nr 2=true:=by
 rcases j with _|_|_|_|_|_|_|j
 all_goals first|rfl|omega
def NU{T n:Nat}{xs:List Iv}{y:Iv}(hn:n=xs.length):
 Bx.le (.row true T (n+[y].length) 7 λi j=>if i<n then jR xs i j else(E.kH (iA [y])) (i-n) j) (.row true T (xs++[y]).length 7 (jR (xs++[y]))):=by
 subst hn;refine .row aK λi j hi hj=>⟨.iM ?_,Cu _ _ hj⟩
 by_cases h:i<xs.length
 .rw [bw h];show(iZ (xs.getD i iu)).getD j .any=(iZ ((xs++[y]).getD i iu)).getD j .any;congr 2;simp[bD,dK h]
 .have nh:i=xs.length:=by simp at hi;omega
  subst nh;rw[bu h,dc];show(iZ y).getD j .any=(iZ ((xs++[y]).getD xs.length iu)).getD j .any;congr 2;simp[bD]
def qU{α:Type}(y:α):[y].length=1:=rfl
def Bz{n i:Nat}{F:Nat->Iv}(h:i<n):((List.range n).map F).getD i iu=F i:=by
 simp[bD,h]
def V1{n:Nat}{M:List (List Iv)}(hn:n=M.length):E.le (.sl true n 1 λk _=>.sl true (mr M k) 7 (oF M k)) (lV M):=by subst hn;exact .refl _
def apg{α:Type}{l:List α}{i:Nat}{d:α}(h:i<l.length):l.getD i d=l[i]:=by
 rw[bD,bI h];rfl
def JK{T n n' k:Nat}{F:Nat->Iv}{y:Iv}(hn:n=k)(tu:n'=k+1)(hy:y=F k):
 Bx.le (.row true T (n+[y].length) 7 λi j=>if i<n then jR ((List.range k).map F) i j else(E.kH (iA [y])) (i-n) j) (.row true T n' 7 (jR ((List.range (k+1)).map F))):=by
 subst hn tu hy;refine .row rfl λi j hi hj=>⟨.iM ?_,Cu _ _ hj⟩
 have hi:i<n+1:=hi;by_cases h:i<n
 .rw [bw h];simp only[jR];rw[Bz h,Bz hi]
 .have nh:i=n:= aE ;subst nh;rw[bu h,dc];simp only[jR];rw[Bz hi];rfl
def zW{n:Nat}{M:List Iv}(hn:n=M.length):E.le (.sl true n 7 (jR M)) (iA M):=by subst hn;exact .refl _
def Fp.rM.Aa{m:List (List Iv)}{n k:Nat}(h:rM m n k){i:Nat}(hi:i<n):(m.getD i []).length=k:=by
 have nh:i<m.length:=by rw[h.lq];exact hi
 rw[bD,bI nh];exact h.row _ (cN nh)
def Fp.rM.ZY{m:List (List Iv)}{n k:Nat}(h:rM m n k){i j:Nat}(hi:i<n)(hj:j<k):((m.getD i []).getD j iu).ik:=by
 have nh:i<m.length:=by rw[h.lq];exact hi
 have hl:=h.Aa hi;rw[bD (l:=m),bI nh]at hl ⊢;change m[i].length=k at hl;show(m[i].getD j iu).ik;have rC:j<m[i].length:=by rw[hl];exact hj
 rw[bD,bI rC];exact h.ok _ (cN nh) _ (cN rC)
def Fp.rM.ahw{m:List (List Iv)}{n k:Nat}(h:rM m n k)(i:Nat):(m.getD i []).length<=8:=by
 by_cases hi:i<n
 .rw [h.Aa hi];exact h.k8
 .rw [bD,cC (by rw[h.lq];omega)];exact cj _
def adH(s:Bool)(L:List Nat)(e:Int)(hk:iK L)(hl:L.length<=256)(lv:-1000000<=e)(kQ:e<=1000000):gZ 255 [bP s,ic L,iP e] (ie (canon s (val L) e)):=by
 refine⟨call255,λw B vs hK hB hr=>?_⟩;obtain⟨v1,vs,rfl,h1,hr⟩:=hr.mI;obtain⟨v2,vs,rfl,h2,hr⟩:=hr.mI;obtain⟨v3,vs,rfl,h3,hr⟩:=hr.mI;obtain rfl:=hr.qm;obtain rfl:=iN.kW h1;obtain rfl:=iN.kW h3;obtain⟨A,c,rfl,s1⟩:=vd hk h2;exact(IH s A c L e w s1 aE (by have:=pq L;unfold mC at this;omega) lv kQ hK).mono λe w' h=>rd B w e w' hB h
def aoa(x y:Nat):E.le (.sl false 2 1 λi j=>[E.v (.int .u32 (x:Int)),.v (.int .u32 (y:Int))].getD (i*1+j) (.v (.bool false))) (ic [x,y]):=.sl λi j hi hj=>by
 obtain rfl:j=0:= aE ;obtain rfl|rfl:i=0\/i=1:= aE 
 .exact ⟨.refl _,rfl⟩
 .exact ⟨.refl _,rfl⟩
def Bj(n:Nat):jo (n:Int)=canon false n 0:=by
 unfold jo pB;rw[bB aE,ej]
def JF(n:Nat)(h:n<4294967296):(jo (n:Int)).ik:=by
 rw[Bj];refine⟨ru _ _ _,?_⟩;by_cases h0:n=0
 .subst h0;exact .inl rfl
 .have:=BV (s:=false) (e:=0) h0;have hb:iq n<=32:=ln.2 h;refine .inr ⟨aE,aE,?_,aE⟩;obtain⟨h1,h2,h3,h4⟩:=this;have:=nv h3;omega
def aoJ(x y:Nat):val [x,y]=x+4294967296*y:=by simp[val]
def CG(n:Nat)(h:n<4294967296):(iS (n:Int)).ik:=uo (JF n h)
def acp(m:Nat)(e:Int):(canon false m e).neg=false:=by unfold canon;split<;>rfl
def agW{c:Nat}(hc:0<c):(jo (c:Int)).m≠0:=by
 rw[Bj];exact(BV (s:=false) (e:=0) aE).2.2.1
def aiY{c:Nat}(hc:0<c):lZ (iS (c:Int))=1:=by
 unfold lZ iS mi;simp only[bS,bJ];rw[bw];unfold Dy.jb;rw[bu (agW hc),show(jo (c:Int)).neg=false by rw[Bj];exact acp _ _];simp
section
variable {m m':List (List Iv)} {h h':Iv} {n p:Nat}
def OB(j:Nat)(hj:j<4294967296):(iS (j:Int)).ik:=uo (JF j hj)
end
def WG(c:Nat):(iS (c:Int)).lo.q=(c:Rat)/\(iS (c:Int)).hi.q=(c:Rat)/\(iS (c:Int)).all=false:=by
 refine⟨?_,?_,rfl⟩
 .show (jo _).q=_;rw[yL];exact eB c
 .show (jo _).q=_;rw[yL];exact eB c
def EA(s:Bool)(m:Nat)(e:Int)(hl:(ia m).length<=3000)(lv:-1000000<=e)(kQ:e<=1000000):gZ 186 [bP s,ic (ia m),iP e] (ie (canon s m e)):=by
 refine⟨call186,λw B vs hK hB hr=>?_⟩;obtain⟨v1,vs,rfl,h1,hr⟩:=hr.mI;obtain⟨v2,vs,rfl,h2,hr⟩:=hr.mI;obtain⟨v3,vs,rfl,h3,hr⟩:=hr.mI;obtain rfl:=hr.qm;obtain rfl:=iN.kW h1;obtain rfl:=iN.kW h3;obtain⟨A,c,rfl,s1⟩:=vd (kR m) h2;have:=GX s A c (ia m) e w s1 hl lv kQ;rw[kf]at this;exact this.mono λe w' h=>rd B w e w' hB h
def BB(a:Dy)(ha:a.ik):gZ 96 [ie a] (bP true):=yI call96 (λA c w h _=>alu a A c w h ha) rv
def tI(a:Dy):gZ 53 [ie a] (iP a.jb):=yI call53 (λA c w h _=>alp a A c w h) rv
def r9(a:Dy):gZ 146 [ie a] (ie (iU a)):=
 yI call146 (λA c w h _=>by
  have:=alf a.neg A c (ia a.m) a.e w h (wJ _);rw[kf]at this;exact this) rd
def Kn(a:Dy)(ha:vt a):gZ 171 [ie a] (iP a.iE):=yI call171 (λA c w h _=>als a A c w h ha) rv
def Pp(n:Nat)(hn:n<4294967296):gZ 112 [iP (n:Int)] (ie (canon false n 0)):=by
 refine⟨call112,λw B vs hK hB hr=>?_⟩;obtain⟨v1,vs,rfl,h1,hr⟩:=hr.mI;obtain rfl:=hr.qm;obtain rfl:=iN.kW h1;exact(alc n w hn).mono λe w' h=>rd B w e w' hB h
end Go.Proofs.YtkjkcjhacddojaaGreatDoor
namespace Go.Proofs.YtkjkcjhacddojaaGreatDoor.Fp
def VQ(m k:Nat):kE (m/2^k*2^k) m=0↔m%2^k=0:=by
 have h1:=cG m (2^k);rw[bK]at h1;unfold kE;split
 .simp;omega
 .split
  .have:=du m (2^k);omega
  .simp;omega
def RT{neg up more:Bool}{m p q:Nat}{e:Int}(hq:kT m e more p (neg != up)=q)(h:q=0\/¬16384<(iq q:Int)+e+jj m e p):jY neg m e more p up=canon neg q (e+jj m e p)/\jP neg m e more p up=0:=by
 have ho:mv m e more p (neg != up)=false:=by
  unfold mv;rw[hq];rcases h with h|h
  .simp [h]
  .simp [h]
 unfold jY jP;rw[ho,hq];simp
def RV{neg up more:Bool}{m p q:Nat}{e:Int}(hq:kT m e more p (neg != up)=q)(h0:q≠0)(h:16384<(iq q:Int)+e+jj m e p):
 ((neg != up)=true->jY neg m e more p up=jD/\jP neg m e more p up=9)/\((neg != up)=false->jY neg m e more p up=canon neg (2^p-1) (16384-p)/\jP neg m e more p up=0):=by
 have ho:mv m e more p (neg != up)=true:=by unfold mv;rw[hq];simp[h0,h]
 unfold jY jP;rw[ho];constructor
 .intro hn;rw[hn];exact⟨rfl,rfl⟩
 .intro hn;rw[hn];exact⟨rfl,rfl⟩
end Go.Proofs.YtkjkcjhacddojaaGreatDoor.Fp
namespace Go.Proofs.YtkjkcjhacddojaaGreatDoor
open Go.RowKit Fp Pu
def alm(d:Dy)(k:Int)(hd:d.ik)(mO:-32768<=k)(tZ:k<=32768)(hr:oB (canon d.neg d.m (d.e+k))):gZ 111 [ie d,iP k] (.iC [ie (canon d.neg d.m (d.e+k)),iP 0]):=by
 refine⟨call111,λw B vs hK hB FU=>?_⟩;obtain⟨v1,vs,rfl,h1,FU⟩:=FU.mI;obtain⟨v2,vs,rfl,h2,FU⟩:=FU.mI;obtain rfl:=FU.qm;obtain⟨A,c,rfl,s1⟩:=II h1;obtain rfl:=iN.kW h2;have:=aln d.neg A c (ia d.m) d.e k w s1 hd.vI mO tZ (by rw[kf];exact hr);rw[kf]at this;exact this.mono λe w' h=>Pk B w e w' hB h
def Rl{n:Int}{e:Int}:canon (jo n).neg (jo n).m ((jo n).e+e)=pB n e:=by
 unfold jo pB;by_cases h:n.natAbs=0
 .rw [h,Dl,Dl];show canon false 0 _=_;rw[Dl]
 .have h1:=Fm h;rw[show canon (decide (n<0)) n.natAbs 0=⟨decide (n<0),n.natAbs/2^jZ n.natAbs,0+(jZ n.natAbs:Int)⟩by unfold canon;rw[bu h]];show canon (decide (n<0)) (n.natAbs/2^jZ n.natAbs) (0+(jZ n.natAbs:Int)+e)=_;rw[<-LI _ _ _ (jZ n.natAbs),h1];congr 1;omega
def LG{n e:Int}(h1:n.natAbs<4294967296)(h2:-1000<=e)(h3:e<=1000):(pB n e).ik:=by
 refine⟨ru _ _ _,?_⟩;unfold pB;by_cases h0:n.natAbs=0
 .rw [h0,Dl];exact .inl rfl
 .have:=BV (s:=decide (n<0)) (e:=e) h0;have hb:iq n.natAbs<=32:=ln.2 h1;obtain⟨h4,h5,h6,_⟩:=this;have:=nv h6;exact .inr ⟨aE,aE,aE,aE⟩
def sA{n:Int}(h1:n.natAbs<4294967296):(jo n).ik:=LG h1 aG aG 
def ala(k:Nat)(w:World)(h0:0<k)(hn:k<4294967296):
 Calls prog 112 #[.int .i64 (-(k:Int))] w (uz w (canon true k 0)):=by
 have hm:=wQ k aE;have xi:(k:Int)%4294967296=k:= aE ;rw[xi]at hm;have hd:(k:Int)/4294967296=0:= aE ;have iL:(-(k:Int))<0:= aE ;have B9:decide ((-(k:Int))<0)=true:=bA iL;have hu:IntKind.u64.wrap (-(k:Int))=18446744073709551616-k:=by rw[IntKind.wrap_u64];omega
 have hs:IntKind.u64.wrap (-(18446744073709551616-(k:Int)))=k:=by rw[IntKind.wrap_u64];omega
 have HC:=aqG (λ(A:Option Addr) c w (h:Sl w A c [k,0])=>GX true A c [k,0] 0 w h aK aG aG);have hv:val [k,0]=k:= aK ;rw[hv]at HC;clear hv;generalize canon true k 0=d at *
 generalize hN:(-(k:Int))=N at *
 go_enter func112,ntmps112;go_wp2_with fail;refine(HC.out _ _ _ (Sl.KO _ _ aK _ _ k 0 rfl rfl hn aG)).mono ?_;rintro r w1 ⟨A1,c1,rfl,tA,kP⟩;have pE:iJ (w.alloc (.cells #[.bool false,.slice none 0 0,.int .i64 0] 39)) w1:=(iJ.alloc _ _).trans kP;have bx:=(jL.new w false none 0 0 0).ext pE;have b0:=bx.c0;have b1:=bx.c1;have b2:=bx.c2;have f0:=bx.fr 0;have f1:=bx.fr 1;have f2:=bx.fr 2;go_wp2;exact tg rfl rfl rfl (bx.set _ _ _ _ _) rfl (bx.tK tA _ _ _ _ _) (jL.sY ((iJ.alloc _ _).trans pE) (bC _) _ _ _ _ _)
def U7(k:Nat)(h0:0<k):jo (-(k:Int))=canon true k 0:=by
 unfold jo pB;rw[bA (show(-(k:Int))<0 by omega),fQ,ej]
def alb(n:Int)(h:n.natAbs<4294967296):gZ 112 [iP n] (ie (jo n)):=by
 by_cases h0:0<=n
 .obtain ⟨k,rfl⟩:=ek h0;rw[Bj];exact Pp k aE 
 .obtain ⟨k,rfl⟩:∃ k:Nat,n = -(k:Int):=⟨n.natAbs,aE⟩
  rw[U7 k aE];refine⟨call112,λw B vs hK hB hr=>?_⟩;obtain⟨v1,vs,rfl,h1,hr⟩:=hr.mI;obtain rfl:=hr.qm;obtain rfl:=iN.kW h1;exact(ala k w aE aE).mono λe w' h=>rd B w e w' hB h
end Go.Proofs.YtkjkcjhacddojaaGreatDoor
