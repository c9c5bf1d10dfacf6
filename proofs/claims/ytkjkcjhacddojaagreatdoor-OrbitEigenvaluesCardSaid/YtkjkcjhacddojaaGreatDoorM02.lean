/- Lemmas that the last file uses. -/
import Derived.Test.YtkjkcjhacddojaaGreatDoorM01
import Derived.Deep.DeepCutAuto
import Derived.Deep.Slices
import Derived.Carry
import Derived.Scope
set_option linter.unusedSimpArgs false
set_option linter.unusedVariables false
set_option linter.defProp false
set_option maxHeartbeats 4000000
open Go.Proofs.Tryz
namespace Go.Proofs.YtkjkcjhacddojaaGreatDoor
open Go.RowKit Fp
def Kt(n c:Nat)(hc:n<=c)(hn:c<=10000000000)(w:World):
 (Instr.makeSlice 37 (.int .i64 (n:Int)) (.int .i64 (c:Int))).run prog w = .ok (.slice (some ⟨w.heap.size,0,none⟩) n c) (w.alloc (.cells (mX (List.replicate c 0)).toArray 150)):=by
 obtain⟨i,hi,hz,h1,h2⟩:=info_parts J8;have hr:=run_make (P:=prog) w 37 150 i _ underlying37 hi hz .i64 .i64 n c aC aC (by rw[h2];omega) aC;rw[hr,fm,fm,h1,ch];refine congrArg (λcs=>Result.ok (Value.slice (some ⟨w.heap.size,0,none⟩) n c) (w.alloc (.cells cs 150))) ?_;apply Array.ext
 .simp [madeCells,mX]
 .intro i h1 h2;simp[madeCells,mX,Value.cells,dJ]
def Ow.xf(w:World)(base n c:Nat)(hb:base<=w.heap.size)(hc:n<=c)(hn:c<=10000000000):
 Ow (w.alloc (.cells (mX (List.replicate c 0)).toArray 150)) base (.slice (some ⟨w.heap.size,0,none⟩) n c) (List.replicate n 0):=
 ⟨⟨by simp[mX],.inr ⟨w.heap.size,c,_,aH,hb,heap_alloc_new w _,by simpa using hc,by simp only[maxLen];omega,by simp[mX],by
  simp[mX,List.take_replicate,dh hc]⟩⟩,iD.B2 n⟩
def iz.own{w w1 w2:World}(h:iz w w1)(v:Value)(L:List Nat)(ho:Ow w1 w.heap.size v L)(hg:w1.grownBy w2 v.ownBlock):iz w w2:=
 h.grown hg h.size (λk hk=>(ho.row.lt k hk).1)
def LA(x q s:Nat)(hx:x<4294967296)(hs:s<32)(hq:q<2^s):
 bits BinOp.or IntKind.u64 (IntKind.u64.wrap ((x:Int)*2^s)) (q:Int)=((x*2^s+q:Nat):Int)/\x*2^s+q<18446744073709551616/\(x*2^s+q)/4294967296<2^s:=by
 have hp:2^s<=2^31:=bH aE aC;have e31:(2:Nat)^31=2147483648:= aE ;have h1:(x+1)*2^s<=4294967296*2^s:=bI _ hx;rw[bR,bT]at h1;have h2:x*2^s<4294967296*2^s:=di hx (bn aE);refine⟨?_,aC,aC⟩;have e:((x:Int)*2^s)=((x*2^s:Nat):Int):= aH ;rw[e,IntKind.wrap_u64,show((x*2^s:Nat):Int)%18446744073709551616=((x*2^s:Nat):Int)by omega,G8 _ _ aC aC,Nat.or_comm,Gt q x s hq,Nat.add_comm]
def Ry(A:Option Addr)(c:Nat)(L:List Nat)(n:Nat)(w:World)(hs:Sl w A c L)(hlen:L.length<=100000000)(hn:n<=65536):
 Calls prog 275 #[.slice A L.length c,.int .i64 n] w (λe w'=>∃ T,val T=val L*2^n/\iD T/\T.length=n/32+(ix L).length+1/\r9 w T e w'):=by
 have hT:=ahF (sM A c L w hs);have jS:=hs.rY;have mL:=nX L;have hC:=jS.cap;have hL:=hs.pq;unfold lu at mL;have hv:=ahF (oD L);generalize ix L=M at *
 obtain⟨m,hm⟩:∃ m,m=M.length:=⟨_,rfl⟩
 rw[<-hm]at hT mL hC;have HM:=ahF hm;clear hm;have oq:=Kt (n/32) (n/32+m+1) aC aC;rw[show((n/32:Nat):Int)=n/32 by omega,show((n/32+m+1:Nat):Int)=n/32+m+1 by omega]at oq;have CS:=ahF (Ow.xf w w.heap.size (n/32) (n/32+m+1) (bd _) aC aC);go_enter func275,ntmps275;go_wp2_with fail;refine hT.out.mono ?_;rintro e w' ⟨rfl,rfl⟩;go_wp2;go_loopw [5,6,23] (λv cy i wr=>∃ (k q:Nat) (O:List Nat),k<=m/\i = .int .i64 k/\cy = .int .u64 q/\q<2^(n%32)/\O.length=n/32+k/\val O+4294967296^(n/32+k)*q=val (M.take k)*2^(n%32)*4294967296^(n/32)/\Ow wr w.heap.size v O/\iz w wr) (λ_ _ i _=>m-(intOf i).toNat)
 case atStart=>
  exact⟨0,0,List.replicate (n/32) 0,bO _,rfl,rfl,bn aE,aH,by simp[yZ],CS.out,iz.alloc _ _⟩
 case round=>
  obtain⟨k,q,O,hk,rfl,rfl,hq,hO,j9,ku,hb⟩:=hrel;have HV:=ahF j9;have HO:=ahF hO;have CR:O.length<=200000000:= aC ;have tu:=ahF hq;clear j9 hO hq;obtain⟨OA,Oc,rfl,zL⟩:=ku.sl;by_cases iA:k<m
  .have nP:k<M.length:=by have:=HM.out;omega
   obtain⟨ab,ao,rfl,_,c1⟩:=(jS.below hb).kD nP;have lN:M[k]<4294967296:=jS.ok.get nP;have HX:=ahF (Lz (c:=q) (s:=n%32) (n0:=n/32) nP HO.out HV.out);generalize M[k]=x at *
   obtain⟨hw,Dj,vQ⟩:=LA x q (n%32) lN (bC _ aE) tu.out;generalize x*2^(n%32)+q=z at *
   have Dk:=ahF vQ;clear vQ;have kQ:O.length+[z%4294967296].length<=10000000000:= aN ;go_wp2_with (at_builtin;go_must (refine qL aG _ _ aG w.heap.size _ O aG (ku.alloc _) _ _ _ [z%4294967296] aG aG (Sl.rU _ _ (z%4294967296) aC aC) kQ (qa hb.size _) ?_);intro v' w1 nh hg om)
   go_roundw
   case rel=>
    exact⟨k+1,z/4294967296,O++[z%4294967296],aC,by go_num,by go_num,Dk.out,by rw[bX,HO.out];rfl,HX.out,nh,(hb.trans (iz.alloc _ _)).own _ _ (ku.alloc _) hg⟩
   case measure=>simp[intOf];omega
  .obtain rfl:k=m:= aC ;have kQ:O.length+[q].length<=10000000000:= aN ;have FU:q<4294967296:=by
    have:=tu.out;have hp:2^(n%32)<=2^31:=bH aE aC;have e31:(2:Nat)^31=2147483648:= aE ;omega
   have PW:(q:Int)%4294967296=q:= aC ;go_wp2_with (at_builtin;go_must (refine qL aG _ _ aG w.heap.size _ O aG (ku.alloc _) _ _ _ [q] aG aG (Sl.rU _ _ q aC aC) kQ (qa hb.size _) ?_);intro v' w1 nh hg om)
   obtain⟨A',c',rfl,ni⟩:=nh.sl;go_ret;refine⟨O++[q],?_,ni.ok,by rw[bX,HO.out,<-HM.out];rfl,A',c',rfl,ni,(hb.trans (iz.alloc _ _)).own _ _ (ku.alloc _) hg⟩;have h:=HV.out;rw[cG (by rw[HM.out];exact bd _)]at h;rw[sU,HO.out,pf,xx,cA,bL,h,<-hv.out,qV,bu,<-bk];congr 2;omega
def Ro(A:Option Addr)(c:Nat)(L:List Nat)(n:Nat)(w:World)(hs:Sl w A c L)(hlen:L.length<=256)(hn:n<=65536)(pH:(gV (val L*2^n)).length<=256):
 Calls prog 219 #[.slice A L.length c,.int .i64 n] w (AN w (gV (val L*2^n)) 0):=by
 have H1:=ahF (λw (h:Sl w A c L)=>Ry A c L n w h aC hn);obtain⟨R,hR⟩:∃ R,R=gV (val L*2^n):=⟨_,rfl⟩
 rw[<-hR]at pH ⊢;have HR:=ahF hR;clear hR;go_enter func219,ntmps219;go_wp2_with fail;refine(Kq _ A _ c _ false (Mc _ _ _ _) aN).mono ?_;rintro e w' ⟨rfl,rfl⟩;go_wp2_with fail;refine(H1.out _ (hs.alloc _)).mono ?_;rintro e w' ⟨T,hT,CU,-,A',c',rfl,ni,hb⟩;have h3:=ahF (show ix T=R by rw[pO CU,hT,HR.out]);clear hT CU;go_wp2_with fail;refine(DM A' c' T _ ni (by rw[h3.out];exact pH)).mono ?_;rintro e w'' ⟨A'',c'',rfl,pW,mo⟩;go_wp2;go_ret2;rw[<-h3.out];exact⟨A'',c'',rfl,pW,(iz.alloc _ _).trans (hb.trans mo)⟩
def aeR(A:Option Addr)(c:Nat)(L:List Nat)(n:Nat)(w:World)(hs:Sl w A c L)(hlen:L.length<=256)(hn:n<=65536)(pH:(gV (val L*2^n)).length<=256):
 Calls prog 266 #[.slice A L.length c,.int .i64 n] w (r9 w (gV (val L*2^n))):=by
 have H1:=ahF (Ro A c L n w hs hlen hn pH);generalize gV (val L*2^n)=R at *
 go_enter func266,ntmps266;go_wp2_with fail;refine H1.out.mono ?_;rintro e w'' ⟨A'',c'',rfl,pW,mo⟩;go_wp2;go_ret;exact⟨A'',c'',rfl,pW,mo⟩
def af6(a b:Nat)(ha:a<18446744073709551616)(hb:b<18446744073709551616):bits .and .u64 (a:Int) (b:Int)=((a &&& b:Nat):Int):=by
 have hx:a &&& b<2^64:=eX _ aC;have h1:(BitVec.ofInt 64 (a:Int)).toNat=a:=by
  rw[fY,fZ];exact bZ aC 
 have h2:(BitVec.ofInt 64 (b:Int)).toNat=b:=by
  rw[fY,fZ];exact bZ aC 
 show IntKind.u64.wrap ((BitVec.ofInt 64 (a:Int) &&& BitVec.ofInt 64 (b:Int)).toNat:Int)=_;rw[BitVec.toNat_and,h1,h2,IntKind.wrap_u64];omega
def wG(z:Nat)(hz:z<18446744073709551616):bits BinOp.and IntKind.u64 (z:Int) 4294967295=(z:Int)%4294967296:=by
 have e:(4294967295:Int)=((4294967295:Nat):Int):=rfl;rw[e,af6 z _ hz aC,show(4294967295:Nat)=2^32-1 by decide,ahw];simp
def adM(A:Option Addr)(c:Nat)(M:List Nat)(n:Nat)(w:World)(jS:Sl w A c M)(hlen:M.length<=1000)(hn:n<=65536):
 Calls prog 246 #[.slice A M.length c,.int .i64 n] w (r9 w (gV (val M*2^n))):=by
 have hC:=jS.cap;have hL:=jS.pq;obtain⟨m,hm⟩:∃ m,m=M.length:=⟨_,rfl⟩
 rw[<-hm]at hlen hC ⊢;have HM:=ahF hm;clear hm;have oq:=Kt (n/32) (n/32) aC aC;rw[show((n/32:Nat):Int)=n/32 by omega]at oq;have CS:=ahF (Ow.xf w w.heap.size (n/32) (n/32) (bd _) aC aC);go_enter func246,ntmps246;go_wp2;go_loopw [5,6,7] (λv cy i wr=>∃ (k q:Nat) (O:List Nat),k<=m/\i = .int .i64 k/\cy = .int .u64 q/\q<2^(n%32)/\O.length=n/32+k/\val O+4294967296^(n/32+k)*q=val (M.take k)*2^(n%32)*4294967296^(n/32)/\Ow wr w.heap.size v O/\iz w wr) (λ_ _ i _=>m-(intOf i).toNat)
 case atStart=>
  exact⟨0,0,List.replicate (n/32) 0,bO _,rfl,rfl,bn aE,aH,by simp[yZ],CS.out,iz.alloc _ _⟩
 case round=>
  obtain⟨k,q,O,hk,rfl,rfl,hq,hO,j9,ku,hb⟩:=hrel;have HV:=ahF j9;have HO:=ahF hO;have CR:O.length<=3100:= aC ;have tu:=ahF hq;clear j9 hO hq;obtain⟨OA,Oc,rfl,zL⟩:=ku.sl;by_cases iA:k<m
  .have nP:k<M.length:=by have:=HM.out;omega
   obtain⟨ab,ao,rfl,_,c1⟩:=(jS.below hb).kD nP;have lN:M[k]<4294967296:=jS.ok.get nP;have HX:=ahF (Lz (c:=q) (s:=n%32) (n0:=n/32) nP HO.out HV.out);generalize M[k]=x at *
   obtain⟨hw,Dj,vQ⟩:=LA x q (n%32) lN (bC _ aE) tu.out;generalize x*2^(n%32)+q=z at *
   have Dk:=ahF vQ;clear vQ;have kQ:O.length+[z%4294967296].length<=10000000000:= aN ;have wY:=wG z Dj;go_wp2_with (at_builtin;go_must (refine qL aG _ _ aG w.heap.size _ O aG (ku.alloc _) _ _ _ [z%4294967296] aG aG (Sl.rU _ _ (z%4294967296) aC aC) kQ (qa hb.size _) ?_);intro v' w1 nh hg om)
   go_roundw
   case rel=>
    exact⟨k+1,z/4294967296,O++[z%4294967296],aC,by go_num,by go_num,Dk.out,by rw[bX,HO.out];rfl,HX.out,nh,(hb.trans (iz.alloc _ _)).own _ _ (ku.alloc _) hg⟩
   case measure=>simp[intOf];omega
  .obtain rfl:k=m:= aC ;have kQ:O.length+[q].length<=10000000000:= aN ;have FU:q<4294967296:=by
    have:=tu.out;have hp:2^(n%32)<=2^31:=bH aE aC;have e31:(2:Nat)^31=2147483648:= aE ;omega
   have PW:(q:Int)%4294967296=q:= aC ;have uB:Hid (ix (O++[q])=gV (val M*2^n)):=by
    show ix (O++[q])=gV (val M*2^n);rw[pO (ku.ok.append (iD.cons FU iD.nil))];have h:=HV.out;rw[cG (by rw[HM.out];exact bd _)]at h;rw[sU,HO.out,pf,xx,cA,bL,h,qV,bu,<-bk];congr 3;omega
   go_wp2_with (at_builtin;go_must (refine qL aG _ _ aG w.heap.size _ O aG (ku.alloc _) _ _ _ [q] aG aG (Sl.rU _ _ q aC aC) kQ (qa hb.size _) ?_);intro v' w1 nh hg om;obtain⟨P,hP⟩:∃ P,P=O++[q]:=⟨_,rfl⟩;rw[<-hP]at nh uB;have FA:P.length<=3101:=(by rw[hP];simp;omega);clear hP;obtain⟨A',c',rfl,ni⟩:=nh.sl)
   refine(B0 A' c' P _ ni aC).mono ?_;rintro e w' ⟨A'',c'',rfl,pW,mo⟩;go_wp2;go_ret;rw[<-uB.out];exact⟨A'',c'',rfl,pW,((hb.trans (iz.alloc _ _)).own _ _ (ku.alloc _) hg).trans mo⟩
def aeX(x y s:Nat)(hx:x<4294967296)(hy:y<4294967296):
 bits BinOp.and IntKind.u64 (bits BinOp.or IntKind.u64 (x:Int) ((y:Int)*4294967296)/2^s) 4294967295=(((x+4294967296*y)/2^s%4294967296:Nat):Int):=by
 have e:((y:Int)*4294967296)=((y*2^32:Nat):Int):= aH ;rw[e,G8 x (y*2^32) aC aC,Gt x y 32 aC];have h:(x+y*2^32)/2^s<18446744073709551616:=cr (bU _ _) aC;have h2:=wG _ h;rw[show(((x+y*2^32:Nat):Int)/2^s)=(((x+y*2^32)/2^s:Nat):Int)by simp,h2];simp[bB]
def aeW(x s:Nat)(hx:x<4294967296):bits BinOp.and IntKind.u64 ((x:Int)/2^s) 4294967295=(((x+4294967296*0)/2^s%4294967296:Nat):Int):=by
 have h:x/2^s<18446744073709551616:=cr (bU _ _) aC;rw[show((x:Int)/2^s)=((x/2^s:Nat):Int)by simp,wG _ h];simp
def adR(A:Option Addr)(c:Nat)(M:List Nat)(n:Nat)(w:World)(jS:Sl w A c M)(hlen:M.length<=3000)(hn:n<=100000):
 Calls prog 263 #[.slice A M.length c,.int .i64 n] w (r9 w (gV (val M/2^n))):=by
 have hC:=jS.cap;have hL:=jS.pq;have uB:Hid (ix (pe (n%32) (M.drop (n/32)))=gV (val M/2^n)):=by
  show _=_;rw[pO (yI _ _),Hd jS.ok]
 obtain⟨R,hR⟩:∃ R,R=gV (val M/2^n):=⟨_,rfl⟩
 rw[<-hR]at uB ⊢;clear hR;obtain⟨m,hm⟩:∃ m,m=M.length:=⟨_,rfl⟩
 rw[<-hm]at hlen hC ⊢;have HM:=ahF hm;clear hm;by_cases h0:m<=n/32
 .go_enter func263,ntmps263;go_wp2;go_ret;have:M.drop (n/32)=[]:=dU (by rw[<-HM.out];exact h0);have h:=uB.out;rw[this]at h;rw[<-h];exact⟨none,0,rfl,Sl.nil _,iz.refl _⟩
 .obtain ⟨ab,ao,rfl,_,_⟩:=jS.kD (i:=0) (by have:=HM.out;omega);have hK:=jS.drop (n/32);have sy:=ahF (show m-n/32=(M.drop (n/32)).length by rw[ev,HM.out]);have qB:n/32<c:= aC ;have oF:0<m-n/32:= aC ;have vD:m-n/32<=3000:= aC ;generalize M.drop (n/32)=K at *
  simp only[cL,zf]at hK;have xY:=ahF (GS (n%32) K);have Jq:=ahF (S4 (n%32) K);have CU:=ahF (yI (n%32) K);generalize pe (n%32) K=T at *
  go_enter func263,ntmps263;go_wp2;go_loopw [5,6] (λv i wr=>∃ (k:Nat) (O:List Nat),k<=m-n/32/\i = .int .i64 k/\O=T.take k/\Ow wr w.heap.size v O/\iz w wr) (λ_ i _=>m-n/32-(intOf i).toNat)
  case atStart=>
   exact⟨0,[],bO _,rfl,aH,Ow.nil _ _,iz.refl _⟩
  case round=>
   obtain⟨k,O,hk,rfl,hO,ku,hb⟩:=hrel;have CR:O.length<=3000:=by rw[hO,cv];omega
   have HO:=ahF hO;clear hO;obtain⟨OA,Oc,rfl,zL⟩:=ku.sl;by_cases iA:k<m-n/32
   .have sB:k<K.length:=by have:=sy.out;omega
    obtain⟨ab',ao',e',_,c1⟩:=(hK.below hb).kD sB;cases e';have hg:=Jq.out k sB;have lN:K[k]<4294967296:=hK.ok.get sB;have HK:=ahF (bt sB);by_cases aam:k+1<m-n/32
    .have wV:k+1<K.length:=by have:=sy.out;omega
     obtain⟨ab',ao',e',_,c2⟩:=(hK.below hb).kD wV;cases e';have hy:K.getD (k+1) 0=K[k+1]:=by rw[bc,bt wV];rfl
     rw[hy]at hg;have oK:K[k+1]<4294967296:=hK.ok.get wV;have HG:=ahF hg;clear hg hy;generalize K[k]=x at *
     generalize K[k+1]=y at *
     clear sB wV;have hw:=aeX x y (n%32) lN oK;have hz:(x+4294967296*y)/2^(n%32)%4294967296<4294967296:=bC _ aE;generalize (x+4294967296*y)/2^(n%32)%4294967296=z at *
     have kQ:O.length+[z].length<=10000000000:= aN ;go_wp2_with (at_builtin;go_must (refine qL aG _ _ aG w.heap.size _ O aG (ku.alloc _) _ _ _ [z] aG aG (Sl.rU _ _ z aC aC) kQ (qa hb.size _) ?_);intro v' w1 nh hg om)
     go_roundw
     case rel=>
      exact⟨k+1,O++[z],aC,by go_num,by rw[HO.out,List.take_add_one,HG.out];rfl,nh,(hb.trans (iz.alloc _ _)).own _ _ (ku.alloc _) hg⟩
     case measure=>simp[intOf];omega
    .have hy:K.getD (k+1) 0=0:=by rw[bc,ct (by have:=sy.out;omega)];rfl
     rw[hy]at hg;have HG:=ahF hg;clear hg hy;generalize K[k]=x at *
     clear sB;have hw:=aeW x (n%32) lN;have hz:(x+4294967296*0)/2^(n%32)%4294967296<4294967296:=bC _ aE;generalize (x+4294967296*0)/2^(n%32)%4294967296=z at *
     have kQ:O.length+[z].length<=10000000000:= aN ;go_wp2_with (at_builtin;go_must (refine qL aG _ _ aG w.heap.size _ O aG (ku.alloc _) _ _ _ [z] aG aG (Sl.rU _ _ z aC aC) kQ (qa hb.size _) ?_);intro v' w1 nh hg om)
     go_roundw
     case rel=>
      exact⟨k+1,O++[z],aC,by go_num,by rw[HO.out,List.take_add_one,HG.out];rfl,nh,(hb.trans (iz.alloc _ _)).own _ _ (ku.alloc _) hg⟩
     case measure=>simp[intOf];omega
   .have ZQ:Hid (ix O=R):=by
     show ix O=R;rw[HO.out,cG (by rw[xY.out,<-sy.out];omega)];exact uB.out
    go_wp2_with fail;refine(B0 OA Oc O _ zL aC).mono ?_;rintro e w' ⟨A'',c'',rfl,pW,mo⟩;go_wp2;go_ret;rw[<-ZQ.out];exact⟨A'',c'',rfl,pW,hb.trans mo⟩
def xU{L:List Nat}{k:Nat}(h:k<L.length):L.getD k 0=L[k]:=by
 rw[bc,bt h];rfl
def Bc{L:List Nat}{k:Nat}(h:¬k<L.length):L.getD k 0=0:=by
 rw[bc,ct aC];rfl
def adQ(A B:Option Addr)(c d:Nat)(L M:List Nat)(w:World)(hs:Sl w A c L)(hr:Sl w B d M)(h1:L.length<=3000)(h2:M.length<=3000):
 Calls prog 247 #[.slice A L.length c,.slice B M.length d] w (r9 w (gV (val L+val M))):=by
 have HLl:=ahF (rfl:L.length=L.length);obtain⟨l,hl⟩:∃ l,l=L.length:=⟨_,rfl⟩
 obtain⟨m,hm⟩:∃ m,m=M.length:=⟨_,rfl⟩
 rw[<-hl]at h1 ⊢;rw[<-hm]at h2 ⊢;have HL:=ahF hl;have HM:=ahF hm;clear hl hm HLl;go_enter func247,ntmps247;go_wp2;go_loopw [5,6,7] (λv cy i wr=>∃ (k q:Nat) (O:List Nat),(k<=l\/k<=m)/\i = .int .i64 k/\cy = .int .u64 q/\q<=1/\O.length=k/\val O+4294967296^k*q=val (L.take k)+val (M.take k)/\Ow wr w.heap.size v O/\iz w wr) (λ_ _ i _=>3000-(intOf i).toNat)
 case atStart=>exact⟨0,0,[],.inl (bO _),rfl,rfl,aE,rfl,aH,Ow.nil _ _,iz.refl _⟩
 case round=>
  obtain⟨k,q,O,hk,rfl,rfl,hq,hO,j9,ku,hb⟩:=hrel;have HS:=ahF (UB (x:=L.getD k 0) (y:=M.getD k 0) hO j9 (uc L k) (uc M k));have HV:=ahF j9;have HO:=ahF hO;have CR:O.length<=3000:= aC ;have JK:k<=3000:= aC ;clear j9 hO hk;obtain⟨OA,Oc,rfl,zL⟩:=ku.sl;have wY:=λz:Nat=>λh:z<8589934593=>wG z aC 
  by_cases hl:k<l
  .have PI:(k:Int)<l:= aC ;have sC:k<L.length:=by have:=HL.out;omega
   obtain⟨ab,ao,rfl,_,c1⟩:=(hs.below hb).kD sC;have lN:L[k]<4294967296:=hs.ok.get sC;rw[xU sC]at HS;generalize L[k]=x at *
   clear sC;by_cases hm:k<m
   .have FP:(k:Int)<m:= aC ;have nP:k<M.length:=by have:=HM.out;omega
    obtain⟨bb,bo,rfl,_,c2⟩:=(hr.below hb).kD nP;have oK:M[k]<4294967296:=hr.ok.get nP;rw[xU nP]at HS;generalize M[k]=y at *
    clear nP;have oq:=wY (q+x+y) aC;simp only[fD]at oq;clear wY;have kQ:O.length+[(q+x+y)%4294967296].length<=10000000000:= aN ;go_wp2_with (at_builtin;go_must (refine qL aG _ _ aG w.heap.size _ O aG (ku.alloc _) _ _ _ [(q+x+y)%4294967296] aG aG (Sl.rU _ _ ((q+x+y)%4294967296) aC aC) kQ (qa hb.size _) ?_);intro v' w1 nh hg om)
    go_roundw
    case rel=>
     exact⟨k+1,(q+x+y)/4294967296,O++[(q+x+y)%4294967296],aC,by go_num,by go_num,aC,by rw[bX,HO.out];rfl,HS.out,nh,(hb.trans (iz.alloc _ _)).own _ _ (ku.alloc _) hg⟩
    case measure=>simp[intOf];omega
   .have FP:¬(k:Int)<m:= aC ;rw[Bc (by have:=HM.out;omega)]at HS;have oq:=wY (q+x+0) aC;simp only[fD,bL]at oq;clear wY;have kQ:O.length+[(q+x+0)%4294967296].length<=10000000000:= aN ;go_wp2_with (at_builtin;go_must (refine qL aG _ _ aG w.heap.size _ O aG (ku.alloc _) _ _ _ [(q+x+0)%4294967296] aG aG (Sl.rU _ _ ((q+x+0)%4294967296) aC aC) kQ (qa hb.size _) ?_);intro v' w1 nh hg om)
    go_roundw
    case rel=>
     exact⟨k+1,(q+x+0)/4294967296,O++[(q+x+0)%4294967296],aC,by go_num,by go_num,aC,by rw[bX,HO.out];rfl,HS.out,nh,(hb.trans (iz.alloc _ _)).own _ _ (ku.alloc _) hg⟩
    case measure=>simp[intOf];omega
  .have PI:¬(k:Int)<l:= aC ;have hlF:decide ((k:Int)<l)=false:=by simpa using PI
   rw[Bc (L:=L) (by have:=HL.out;omega)]at HS;by_cases hm:k<m
   .have FP:(k:Int)<m:= aC ;have nP:k<M.length:=by have:=HM.out;omega
    obtain⟨bb,bo,rfl,_,c2⟩:=(hr.below hb).kD nP;have oK:M[k]<4294967296:=hr.ok.get nP;rw[xU nP]at HS;generalize M[k]=y at *
    clear nP;have oq:=wY (q+0+y) aC;simp only[fD,bL]at oq;clear wY;have kQ:O.length+[(q+0+y)%4294967296].length<=10000000000:= aN ;go_wp2_with (at_builtin;go_must (refine qL aG _ _ aG w.heap.size _ O aG (ku.alloc _) _ _ _ [(q+0+y)%4294967296] aG aG (Sl.rU _ _ ((q+0+y)%4294967296) aC aC) kQ (qa hb.size _) ?_);intro v' w1 nh hg om)
    go_roundw
    case rel=>
     exact⟨k+1,(q+0+y)/4294967296,O++[(q+0+y)%4294967296],aC,by go_num,by go_num,aC,by rw[bX,HO.out];rfl,HS.out,nh,(hb.trans (iz.alloc _ _)).own _ _ (ku.alloc _) hg⟩
    case measure=>simp[intOf];omega
   .have FP:¬(k:Int)<m:= aC ;clear wY;have FU:(q:Int)%4294967296=q:= aC ;have uB:Hid (ix (O++[q])=gV (val L+val M)):=by
     show ix (O++[q])=_;rw[pO (ku.ok.append (iD.cons aC iD.nil)),sU,HO.out];have h:=HV.out;rw[cG (by have:=HL.out;omega),cG (by have:=HM.out;omega)]at h;simp only[pf,xx,cA,bL];rw[h]
    have kQ:O.length+[q].length<=10000000000:= aN ;go_wp2_with (at_builtin;go_must (refine qL aG _ _ aG w.heap.size _ O aG (ku.alloc _) _ _ _ [q] aG aG (Sl.rU _ _ q aC aC) kQ (qa hb.size _) ?_);intro v' w1 nh hg om;obtain⟨P,hP⟩:∃ P,P=O++[q]:=⟨_,rfl⟩;rw[<-hP]at nh uB;have FA:P.length<=3001:=(by rw[hP];simp;omega);clear hP;obtain⟨A',c',rfl,ni⟩:=nh.sl)
    refine(B0 A' c' P _ ni aC).mono ?_;rintro e w' ⟨A'',c'',rfl,pW,mo⟩;go_wp2;go_ret;rw[<-uB.out];exact⟨A'',c'',rfl,pW,((hb.trans (iz.alloc _ _)).own _ _ (ku.alloc _) hg).trans mo⟩
def af1(x s:Nat)(hx:x<4294967296):bits BinOp.and IntKind.u32 ((x:Int)/2^s) 1=((x/2^s%2:Nat):Int):=by
 have h:x/2^s<4294967296:=cr (bU _ _) aC;rw[show((x:Int)/2^s)=((x/2^s:Nat):Int)by simp,show(1:Int)=((1:Nat):Int)from rfl,bits_and_u32_nat _ _ h aE,Nat.and_one_is_mod]
def ad0(A:Option Addr)(c:Nat)(L:List Nat)(w:World)(hs:Sl w A c L)(h1:L.length<=3000)(h0:val L≠0):
 Calls prog 262 #[.slice A L.length c] w λe w'=>e = .returned (.int .i64 (jq (val L)))/\w=w':=by
 have hz:=Cw hs.ok h0;have HB:=ahF (λk (hk:k<jq (val L))=>Vq h0 hk);have HE:=ahF (Vp h0);have HV:=ahF (λk=>Vr hs.ok k);generalize jq (val L)=t at *
 go_enter func262,ntmps262;go_wp2;go_loop [3] (λi=>∃ k:Nat,k<=t/\i = .int .i64 k) (λi=>t-(intOf i).toNat)
 case atStart=>exact⟨0,bO _,rfl⟩
 case round=>
  obtain⟨k,hk,rfl⟩:=hrel;have sC:k/32<L.length:= aC ;obtain⟨ab,ao,rfl,_,c1⟩:=hs.kD sC;have hv:=HV.out k sC;have lN:L[k/32]<4294967296:=hs.ok.get sC;generalize L[k/32]=x at *
  clear HV;have zE:=af1 x (k%32) lN;rw[<-hv]at zE;clear hv;by_cases hkt:k<t
  .rw [HB.out k hkt]at zE;have hb:(bits BinOp.and IntKind.u32 ((x:Int)/2^(k%32)) 1==0)=true:=by rw[zE];rfl
   clear zE;go_wp2;go_round
   case rel=>exact⟨k+1,aC,by go_num⟩
   case measure=>simp[intOf];omega
  .obtain rfl:k=t:= aC ;rw[HE.out]at zE;have hb:(bits BinOp.and IntKind.u32 ((x:Int)/2^(k%32)) 1==0)=false:=by rw[zE];rfl
   clear zE;go_wp2;go_ret;exact⟨rfl,rfl⟩
def adN(A B:Option Addr)(c d:Nat)(L M:List Nat)(w:World)(hs:Sl w A c L)(hr:Sl w B d M)(h1:L.length<=3000)(h2:M.length<=L.length)(hle:val M<=val L):
 Calls prog 248 #[.slice A L.length c,.slice B M.length d] w (r9 w (gV (val L-val M))):=by
 obtain⟨l,hl⟩:∃ l,l=L.length:=⟨_,rfl⟩
 obtain⟨m,hm⟩:∃ m,m=M.length:=⟨_,rfl⟩
 rw[<-hl]at h1 h2 ⊢;rw[<-hm]at h2 ⊢;have HL:=ahF hl;have HM:=ahF hm;clear hl hm;have HLE:=ahF hle;clear hle;go_enter func248,ntmps248;go_wp2;go_loopw [5,6,7] (λv cy i wr=>∃ (k q:Nat) (O:List Nat),k<=l/\i = .int .i64 k/\cy = .int .u64 q/\q<=1/\O.length=k/\val O+val (M.take k)=val (L.take k)+4294967296^k*q/\Ow wr w.heap.size v O/\iz w wr) (λ_ _ i _=>l-(intOf i).toNat)
 case atStart=>exact⟨0,0,[],bO _,rfl,rfl,aE,rfl,aH,Ow.nil _ _,iz.refl _⟩
 case round=>
  obtain⟨k,q,O,hk,rfl,rfl,hq,hO,j9,ku,hb⟩:=hrel;have HS:=ahF (λ(x y:Nat) (e1:L.getD k 0=x) (e2:M.getD k 0=y) (dd c':Nat)=>afn (x:=x) (y:=y) (d:=dd) (c':=c') hO j9 ((uc L k).trans (by rw[e1])) ((uc M k).trans (by rw[e2])));have HV:=ahF j9;have HO:=ahF hO;have CR:O.length<=3000:= aC ;clear j9 hO;obtain⟨OA,Oc,rfl,zL⟩:=ku.sl;by_cases hl:k<l
  .have sC:k<L.length:=by have:=HL.out;omega
   obtain⟨ab,ao,rfl,_,c1⟩:=(hs.below hb).kD sC;have lN:L[k]<4294967296:=hs.ok.get sC;have HX:=ahF (xU sC);generalize L[k]=x at *
   clear sC;by_cases hm:k<m
   .have nP:k<M.length:=by have:=HM.out;omega
    obtain⟨bb,bo,rfl,_,c2⟩:=(hr.below hb).kD nP;have oK:M[k]<4294967296:=hr.ok.get nP;have HY:=ahF (xU nP);generalize M[k]=y at *
    clear nP;have oq:=wG (x+4294967296-(q+y)) aC;rw[show((x+4294967296-(q+y):Nat):Int)=x+4294967296-(q+y)by omega]at oq;have kQ:O.length+[(x+4294967296-(q+y))%4294967296].length<=10000000000:= aN ;go_wp2_with (at_builtin;go_must (refine qL aG _ _ aG w.heap.size _ O aG (ku.alloc _) _ _ _ [(x+4294967296-(q+y))%4294967296] aG aG (Sl.rU _ _ ((x+4294967296-(q+y))%4294967296) aC aC) kQ (qa hb.size _) ?_);intro v' w1 nh hg om)
    go_roundw
    case rel=>
     exact⟨k+1,1-(x+4294967296-(q+y))/4294967296,O++[(x+4294967296-(q+y))%4294967296],aC,by go_num,by rw[show(1-((x:Int)+4294967296-(q+y))/4294967296)=((1-(x+4294967296-(q+y))/4294967296:Nat):Int)by omega],aC,by rw[bX,HO.out];rfl,HS.out x y HX.out HY.out _ _ aC,nh,(hb.trans (iz.alloc _ _)).own _ _ (ku.alloc _) hg⟩
    case measure=>simp[intOf];omega
   .have FP:¬(k:Int)<m:= aC ;have HY:=ahF (Bc (L:=M) (k:=k) (by have:=HM.out;omega));have oq:=wG (x+4294967296-q) aC;rw[show((x+4294967296-q:Nat):Int)=x+4294967296-q by omega]at oq;have kQ:O.length+[(x+4294967296-q)%4294967296].length<=10000000000:= aN ;go_wp2_with (at_builtin;go_must (refine qL aG _ _ aG w.heap.size _ O aG (ku.alloc _) _ _ _ [(x+4294967296-q)%4294967296] aG aG (Sl.rU _ _ ((x+4294967296-q)%4294967296) aC aC) kQ (qa hb.size _) ?_);intro v' w1 nh hg om)
    go_roundw
    case rel=>
     exact⟨k+1,1-(x+4294967296-q)/4294967296,O++[(x+4294967296-q)%4294967296],aC,by go_num,by rw[show(1-((x:Int)+4294967296-q)/4294967296)=((1-(x+4294967296-q)/4294967296:Nat):Int)by omega],aC,by rw[bX,HO.out];rfl,HS.out x 0 HX.out HY.out _ _ aC,nh,(hb.trans (iz.alloc _ _)).own _ _ (ku.alloc _) hg⟩
    case measure=>simp[intOf];omega
  .obtain rfl:k=l:= aC ;have uB:Hid (ix O=gV (val L-val M)):=by
    show ix O=_;have h:=HV.out;rw[cG (l:=L) (by have:=HL.out;omega),cG (l:=M) (by have:=HM.out;omega)]at h;rw[pO ku.ok,(Tk ku.ok HO.out h HLE.out).2]
   go_wp2_with fail;refine(B0 OA Oc O _ zL aC).mono ?_;rintro e w' ⟨A'',c'',rfl,pW,mo⟩;go_wp2;go_ret;rw[<-uB.out];exact⟨A'',c'',rfl,pW,hb.trans mo⟩
def Rh{O:List Nat}{p a b c o:Nat}(ho:O[p]? = some o):
 val (O.set p ((a*b+o+c)%4294967296))+4294967296^(p+1)*((a*b+o+c)/4294967296)=val O+4294967296^p*c+4294967296^p*(a*b):=by
 obtain⟨hp,rfl⟩:=b9.1 ho;have h:=LS (x:=(a*b+O[p]+c)%4294967296) hp;have e:=congrArg (4294967296^p * ·) (dV (a*b+O[p]+c) 4294967296);simp only[bJ]at e;rw[bw,bu];omega
def M3{O:List Nat}{p c o:Nat}(ho:O[p]? = some o):
 val (O.set p ((o+c)%4294967296))+4294967296^(p+1)*((o+c)/4294967296)=val O+4294967296^p*c:=by
 have h:=Rh (a:=0) (b:=0) (c:=c) ho;simpa using h
def qK(x:Nat)(h:x<18446744073709551616):IntKind.u64.wrap (x:Int)=x:=by rw[IntKind.wrap_u64];omega
def Fp.iD.SY{L:List Nat}(h:iD L)(k:Nat)(x:Nat):iD (L.set k (x%4294967296)):=h.set k (bC _ aE)
def GF(s:Bool)(A:Option Addr)(c:Nat)(L:List Nat)(e:Int)(w:World)(hs:Sl w A c L)(hlen:L.length<=3000)(lh:-1000000<=e)(kx:e<=1000000):
 Calls prog 186 #[.bool s,.slice A L.length c,.int .i64 e] w (vj w (canon s (val L) e)):=by
 by_cases h0:val L=0
 .have qA:=ahF (show canon s (val L) e=jt by unfold canon;rw[aZ h0];rfl);have JW:ix L=[]:=by rw[pO hs.ok,h0,nI]
  have hT:=ahF (λw (h:Sl w A c L)=>B0 A c L w h aC);rw[JW]at hT;clear JW h0;go_enter func186,ntmps186;go_wp2_with fail;refine(hT.out _ (hs.alloc _)).mono ?_;rintro e w' ⟨A',c',rfl,ni,hb⟩;have bx:=(ji.new w false none 0 0 0).ext hb;have b0:=bx.c0;have b1:=bx.c1;have b2:=bx.c2;have f0:=bx.fr 0;have f1:=bx.fr 1;have f2:=bx.fr 2;go_wp2;rw[qA.out];have hz:gV jt.m=[]:=nI;exact sr rfl rfl rfl (bx.set _ _ _ _ _) (by rw[hz];rfl) (by rw[hz];exact bx.sP (Sl.nil _) _ _ _ _ _) (ji.rX ((iz.alloc _ _).trans hb) (bd _) _ _ _ _ _)
 .have qA:=ahF (show canon s (val L) e=⟨s,val L/2^jq (val L),e+jq (val L)⟩by unfold canon;rw[aY h0]);have hT:=ahF (λw (h:Sl w A c L)=>B0 A c L w h aC);have P3:=nX L;unfold lu at P3;have hv:=oD L;have j8:=hs.ok.ix;generalize ix L=M at *
  rw[<-hv]at h0 qA ⊢;clear hv;have hZ:=ahF (λA c w (h:Sl w A c M)=>ad0 A c M w h aC h0);have yh:jq (val M)<=100000:=by have:=Cw j8 h0;omega
  have hR:=ahF (λA c w (h:Sl w A c M)=>adR A c M (jq (val M)) w h aC yh);have q9:M.length≠0:=by intro h;rw[du h]at h0;exact h0 rfl
  generalize val M/2^jq (val M)=q at *
  generalize jq (val M)=t at *
  obtain⟨m,hm⟩:∃ m,m=M.length:=⟨_,rfl⟩
  go_enter func186,ntmps186;go_wp2_with fail;refine(hT.out _ (hs.alloc _)).mono ?_;rintro e' w1 ⟨A1,c1,rfl,sF,jW⟩;go_wp2_with fail;refine(hZ.out _ _ _ sF).mono ?_;rintro e' w2 ⟨rfl,rfl⟩;go_wp2_with fail;refine(hR.out _ _ _ sF).mono ?_;rintro e' w2 ⟨A2,c2,rfl,jS,mh⟩;have hb:=jW.trans mh;have bx:=(ji.new w false none 0 0 0).ext hb;have b0:=bx.c0;have b1:=bx.c1;have b2:=bx.c2;have f0:=bx.fr 0;have f1:=bx.fr 1;have f2:=bx.fr 2;go_wp2;rw[qA.out];exact sr rfl rfl rfl (bx.set _ _ _ _ _) rfl (bx.sP jS _ _ _ _ _) (ji.rX ((iz.alloc _ _).trans hb) (bd _) _ _ _ _ _)
def Xq(A:Option Addr)(c:Nat)(L:List Nat)(w:World)(hs:Sl w A c L)(h1:L.length<=3000)(h0:val L≠0)(hT:Tb w):
 Calls prog 300 #[.slice A L.length c] w λe w'=>e = .returned (.int .i64 (jq (val L)))/\w=w':=by
 have j8:=hs.ok;have HV:=ahF (λi hi h hx=>WK j8 i hi h hx);have H0:=ahF h0;clear h0;go_enter func300,ntmps300;go_wp2;go_loop [3,8] (λn i=>∃ k:Nat,k<=L.length/\i = .int .i64 k/\n = .int .i64 ((32*k:Nat):Int)/\∀ j,(hj:j<k)->L[j]? = some 0) (λ_ i=>L.length-(intOf i).toNat)
 case atStart=>exact⟨0,bO _,rfl,rfl,λj hj=> aC⟩
 case round=>
  obtain⟨k,hk,rfl,rfl,hz⟩:=hrel;have HZ:=ahF hz;clear hz;by_cases iA:k<L.length
  .obtain ⟨ab,ao,rfl,_,c1⟩:=hs.kD iA;have lN:L[k]<4294967296:=j8.get iA;have HG:=ahF (bt iA);have HC:=ahF (λhx=>HV.out k iA (λj hj=>by have:=HZ.out j hj;rw[bt aC]at this;simpa using this) hx);clear HV;generalize L[k]=x at *
   by_cases hx:x=0
   .have HX:=ahF hx;clear hx;have hb:((x:Int) != 0)=false:=by have:=HX.out;simp;omega
    go_wp2;go_round
    case rel=>exact⟨k+1,aC,by go_num,by go_num,λj hj=>by
     by_cases e:j=k
     .subst e;rw[HG.out,HX.out]
     .exact HZ.out j aC⟩
    case measure=>simp[intOf];omega
   .have hb:((x:Int) != 0)=true:= aN ;have HX:=ahF (HC.out hx);have agS:jq x<=32:=by
     have h1:=Gu hx;rcases fM 32 (jq x)with h|h
     .have:=gh (a:=2) aE h;have e:(2:Nat)^32=4294967296:= aE ;omega
     .exact h
    go_wp2_with (go_at_call 355;refine(afY x hx lN _ hT).mono ?_;rintro e w' ⟨rfl,rfl⟩)
    go_ret;exact⟨nd (by rw[HX.out];simp),rfl⟩
  .exfalso;have:val L=0:=by
    rw[Er];intro y hy;obtain⟨j,hj,rfl⟩:=gN hy;have:=HZ.out j aC;rw[bt hj]at this;simpa using this
   exact H0.out this
def Fe(s:Bool)(A:Option Addr)(c:Nat)(L:List Nat)(e:Int)(w:World)(hs:Sl w A c L)(_hlen:L.length<=100000)(mL:(ix L).length<=256)(lh:-1000000<=e)(kx:e<=1000000)(rB:Tb w):
 Calls prog 255 #[.bool s,.slice A L.length c,.int .i64 e] w (vj w (canon s (val L) e)):=by
 have hT:=ahF (λw (h:Sl w A c L)=>Xu A c L w h);have jS:=hs.rY;have hv:=oD L;have j8:=hs.ok.ix;have zU:=xv L;generalize ix L=M at *
 rw[<-hv];clear hv;by_cases h0:val M=0
 .have qA:=ahF (show canon s (val M) e=jt by unfold canon;rw[aZ h0];rfl);have q9:Hid (M.length=0):=by
   show M.length=0;rw[zU.CI j8,h0,nI];rfl
  obtain⟨m,hm⟩:∃ m,m=M.length:=⟨_,rfl⟩
  rw[<-hm]at hT q9;clear hm h0;obtain rfl:m=0:=q9.out;clear q9;go_enter func255,ntmps255;go_wp2_with fail;refine(hT.out _ (hs.alloc _)).mono ?_;rintro e w' ⟨rfl,rfl⟩;have bx:=ji.new w false none 0 0 0;have b0:=bx.c0;have b1:=bx.c1;have b2:=bx.c2;have f0:=bx.fr 0;have f1:=bx.fr 1;have f2:=bx.fr 2;go_wp2;rw[qA.out];have hz:gV jt.m=[]:=nI;exact sr rfl rfl rfl bx (by rw[hz];rfl) (by rw[hz];exact Sl.nil _) (iz.alloc _ _)
 .have qA:=ahF (show canon s (val M) e=⟨s,val M/2^jq (val M),e+jq (val M)⟩by unfold canon;rw[aY h0]);have hZ:=ahF (λA c w (h:Sl w A c M) (ht:Tb w)=>Xq A c M w h aC h0 ht);have yh:jq (val M)<=65536:=by have:=Cw j8 h0;omega
  have hR:=ahF (λA c w (h:Sl w A c M)=>Rr A c M (jq (val M)) w h mL yh);have q9:M.length≠0:=by intro h;rw[du h]at h0;exact h0 rfl
  have uK:(gV (val M/2^jq (val M))).length<=256:=by
   refine tG (cr (bU _ _) ?_);exact bM (mQ j8) (bH aE mL)
  generalize val M/2^jq (val M)=q at *
  generalize jq (val M)=t at *
  have hK:=ahF (λA c w (h:Sl w A c (gV q))=>Iw A c (gV q) w h aC);have hP:=ahF (λA c w (h:Sl w A c (gV q))=>Iu A c (gV q) w h);obtain⟨Q,hQ⟩:∃ Q,Q=gV q:=⟨_,rfl⟩
  have HQ:=ahF hQ;rw[<-hQ]at hR hK hP uK;clear hQ;go_enter func255,ntmps255;go_wp2_with fail;refine(hT.out _ (hs.alloc _)).mono ?_;rintro e' w1 ⟨rfl,rfl⟩;go_wp2_with fail;refine(hZ.out _ _ _ (jS.alloc _) (rB.alloc _)).mono ?_;rintro e' w2 ⟨rfl,rfl⟩;go_wp2_with fail;refine(hR.out _ _ _ (jS.alloc _)).mono ?_;rintro e' w2 ⟨A2,c2,rfl,aas,mh⟩;go_wp2_with fail;refine(hK.out _ _ _ aas).mono ?_;rintro e' w3 ⟨A3,c3,rfl,Dc,pT⟩;go_wp2_with fail;refine(hP.out _ _ _ Dc).mono ?_;rintro e' w4 ⟨rfl,rfl⟩;have hb:=mh.trans pT;have bx:=(ji.new w false none 0 0 0).ext hb;have b0:=bx.c0;have b1:=bx.c1;have b2:=bx.c2;have f0:=bx.fr 0;have f1:=bx.fr 1;have f2:=bx.fr 2;go_wp2;rw[qA.out];rw[HQ.out]at Dc ⊢;exact sr rfl rfl rfl (bx.set _ _ _ _ _) rfl (bx.sP Dc.Nc _ _ _ _ _) (ji.rX ((iz.alloc _ _).trans hb) (bd _) _ _ _ _ _)
def IL(A:Option Addr)(c:Nat)(L:List Nat)(w:World)(hs:Sl w A c L)(hlen:L.length<=100000000):
 Calls prog 245 #[.slice A L.length c] w λe w'=>e = .returned (.int .i64 (ib (val L)))/\w=w':=by
 have H:=ahF (Rj A c L w hs hlen);go_enter func245,ntmps245;go_wp2_with fail;refine H.out.mono ?_;rintro e w' ⟨rfl,rfl⟩;go_wp2;go_ret;exact⟨rfl,rfl⟩
def sH(m:Nat)(e:Int):Bool:=decide (mN ⟨false,m,e⟩)
def J7(s:Bool)(A:Option Addr)(c:Nat)(L:List Nat)(e:Int)(w:World)(hs:Sl w A c L)(hlen:L.length<=100000000)(lh:-9223372036854775808<=e)(kx:e<=9223372036854775807):
 Calls prog 167 #[.agg #[.bool s,.slice A L.length c,.int .i64 e]] w λr w'=>r = .returned (.bool (sH (val L) e))/\iz w w':=by
 have H:=ahF (λw (h:Sl w A c L)=>IL A c L w h hlen);have hn:Hid (sH (val L) e=decide (ib (val L)=0\/ib (val L)<=4096 /\ -16384<=e/\e<=16384/\(ib (val L):Int)+e<=16384)):=by
  have h:ib (val L)=0↔val L=0:=by
   constructor
   .intro h;apply bN;intro h0;have:=np h0;omega
   .intro h;rw[h];rfl
  exact ahe.2 (or_congr h.symm Iff.rfl)
 have wR:ib (val L)<=32*L.length:=kV.2 (by rw[<-qV];exact mQ hs.ok);generalize ib (val L)=n at *
 generalize sH (val L) e=b at *
 have aac:n=0\/(0<n/\4096<n)\/(0<n/\n<=4096/\e < -16384)\/(0<n/\n<=4096 /\ -16384<=e/\16384<e)\/(0<n/\n<=4096 /\ -16384<=e/\e<=16384/\16384<(n:Int)+e)\/(0<n/\n<=4096 /\ -16384<=e/\e<=16384/\(n:Int)+e<=16384):= aC ;rcases aac with h|⟨h,h1⟩|⟨h,h1,h2⟩|⟨h,h1,h2,h3⟩|⟨h,h1,h2,h3,h4⟩|⟨h,h1,h2,h3,h4⟩
 .subst h;have hb:b=true:=by rw[hn.out];simp
  clear hn;subst hb;go_enter func167,ntmps167;go_wp2_with fail;refine(H.out _ (hs.alloc _)).mono ?_;rintro r w' ⟨rfl,rfl⟩;go_wp2;go_ret;exact⟨rfl,iz.alloc _ _⟩
 .have hb:b=false:=by rw[hn.out];simp;omega
  have pV:((n:Int)==0)=false:= aN ;have rE:decide ((n:Int)<=4096)=false:= aN ;clear hn;subst hb;go_enter func167,ntmps167;go_wp2_with fail;refine(H.out _ (hs.alloc _)).mono ?_;rintro r w' ⟨rfl,rfl⟩;go_wp2;go_ret;exact⟨rfl,iz.alloc _ _⟩
 .have hb:b=false:=by rw[hn.out];simp;omega
  have pV:((n:Int)==0)=false:= aN ;have rE:decide ((n:Int)<=4096)=true:= aN ;have kz:decide (-16384<=e)=false:= aN ;clear hn;subst hb;go_enter func167,ntmps167;go_wp2_with fail;refine(H.out _ (hs.alloc _)).mono ?_;rintro r w' ⟨rfl,rfl⟩;go_wp2;go_ret;exact⟨rfl,iz.alloc _ _⟩
 .have hb:b=false:=by rw[hn.out];simp;omega
  have pV:((n:Int)==0)=false:= aN ;have rE:decide ((n:Int)<=4096)=true:= aN ;have kz:decide (-16384<=e)=true:= aN ;have Bq:decide (e<=16384)=false:= aN ;clear hn;subst hb;go_enter func167,ntmps167;go_wp2_with fail;refine(H.out _ (hs.alloc _)).mono ?_;rintro r w' ⟨rfl,rfl⟩;go_wp2;go_ret;exact⟨rfl,iz.alloc _ _⟩
 .have hb:b=false:=by rw[hn.out];simp;omega
  have pV:((n:Int)==0)=false:= aN ;have rE:decide ((n:Int)<=4096)=true:= aN ;have kz:decide (-16384<=e)=true:= aN ;have Bq:decide (e<=16384)=true:= aN ;have hn4:decide ((n:Int)+e<=16384)=false:= aN ;clear hn;subst hb;go_enter func167,ntmps167;go_wp2_with fail;refine(H.out _ (hs.alloc _)).mono ?_;rintro r w' ⟨rfl,rfl⟩;go_wp2;go_ret;exact⟨rfl,iz.alloc _ _⟩
 .have hb:b=true:=by rw[hn.out];simp;omega
  have pV:((n:Int)==0)=false:= aN ;have rE:decide ((n:Int)<=4096)=true:= aN ;have kz:decide (-16384<=e)=true:= aN ;have Bq:decide (e<=16384)=true:= aN ;have hn4:decide ((n:Int)+e<=16384)=true:= aN ;clear hn;subst hb;go_enter func167,ntmps167;go_wp2_with fail;refine(H.out _ (hs.alloc _)).mono ?_;rintro r w' ⟨rfl,rfl⟩;go_wp2;go_ret;exact⟨rfl,iz.alloc _ _⟩
def nB(s:Bool)(L:List Nat)(e:Int):Prop:=mB L/\L.length<=256/\Dy.gX ⟨s,val L,e⟩
def NQ(s:Bool)(e:Int):nB s [] e↔s=false/\e=0:=by
 unfold nB;constructor
 .rintro ⟨_,_,hc,_⟩;rcases hc with⟨_,h1,h2⟩|h
  .exact ⟨h1,h2⟩
  .simp at h
 .rintro ⟨rfl,rfl⟩;exact⟨mB.nil,aH,qe⟩
def NP{s:Bool}{L:List Nat}{e:Int}{x y:Nat}(hx:L[0]? = some x)(hy:L[L.length-1]? = some y):
 nB s L e↔L.length<=256/\x%2=1/\y≠0/\sH (val L) e=true:=by
 have PT:val L%2=x%2:=by
  cases L with
  |nil=>simp at hx
  |cons z l=>simp at hx;subst hx;simp only[pf];omega
 have zU:mB L↔y≠0:=by
  rw[yY];obtain⟨h1,h2⟩:=b9.1 hy;constructor
  .intro h;rw[<-h2];exact h aC 
  .intro h _;rw[h2];exact h
 unfold nB sH;rw[zU,gi];constructor
 .rintro ⟨h1,h2,hc,hr⟩;have uL:mN ⟨false,val L,e⟩:=hr;refine⟨h2,?_,h1,uL⟩;rcases hc with⟨h,_,_⟩|h
  .exfalso;have:=(zU.2 h1).xy (by intro h0;subst h0;simp at hx);simp only at h;omega
  .rw [<-PT];exact h
 .rintro ⟨h1,h2,h3,h4⟩;exact⟨h3,h1,.inr (by show val L%2=1;rw[PT];exact h2),h4⟩
def qg{b:Bool}{P:Prop}(h:b=true↔P)(hn:¬P):b=false:=by
 cases b
 .rfl
 .exact absurd (h.1 rfl) hn
def Ih{b:Bool}{P:Prop}(h:b=true↔P)(hn:P):b=true:=h.2 hn
def Vj{b v:Bool}{P:Prop}(h:b=true↔P)(hn:P↔v=true):b=v:=by
 cases b<;>cases v<;>simp_all
def zw(s:Bool)(A:Option Addr)(c:Nat)(L:List Nat)(e:Int)(w:World)(b:Bool)(hs:Sl w A c L)(lh:-9223372036854775808<=e)(kx:e<=9223372036854775807)(hb:b=true↔nB s L e):
 Calls prog 92 #[.agg #[.bool s,.slice A L.length c,.int .i64 e]] w λr w'=>r = .returned (.bool b)/\iz w w':=by
 have Bl:=hs.cap;have yh:=hs.pq;by_cases hL:L=[]
 .subst hL;rw[NQ]at hb;cases s
  .by_cases h:e=0
   .subst h;have:b=true:=by simpa using hb
    clear hb;subst this;go_enter func92,ntmps92;go_wp2;go_ret;exact⟨rfl,iz.alloc _ _⟩
   .have:b=false:=qg hb (by simp[h]);have h':(e==0)=false:= aN ;clear hb;subst this;go_enter func92,ntmps92;go_wp2;go_ret;exact⟨rfl,iz.alloc _ _⟩
  .have:b=false:=qg hb aH ;clear hb;subst this;go_enter func92,ntmps92;go_wp2;go_ret;exact⟨rfl,iz.alloc _ _⟩
 .have re:0<L.length:=ef.2 hL;clear hL;obtain⟨ab,ao,rfl,_,c1⟩:=hs.kD re;obtain⟨ab',ao',e',_,c2⟩:=hs.kD (i:=L.length-1) aC;cases e';have lN:=hs.ok.get re;have oK:=hs.ok.get (aC:L.length-1<L.length);rw[NP (bt re) (bt (aC:L.length-1<L.length))]at hb;have c1':w.cell? ⟨ab,ao,none⟩=some (.int .u32 (L[0]:Int)):=c1;clear c1;generalize L[0]=x at *
  generalize L[L.length-1]=y at *
  have HB:=ahF hb;clear hb;have H:=ahF (λw (h:Sl w (some ⟨ab,ao,none⟩) c L) (hl:L.length<=256)=>J7 s _ c L e w h aC lh kx);obtain⟨n,hn⟩:∃ n,n=L.length:=⟨_,rfl⟩
  rw[<-hn]at re c2 H HB Bl ⊢;clear hn;generalize sH (val L) e=v at *
  have pV:((n:Int)==0)=false:= aN ;by_cases h1:n<=256
  .have rE:decide ((n:Int)<=256)=true:= aN ;by_cases h2:x%2=1
   .have kz:((x:Int)%2==1)=true:= aN ;by_cases h3:y=0
    .have:b=false:=qg HB.out (by simp[h3]);have Bq:((y:Int) != 0)=false:= aN ;clear HB;subst this;go_enter func92,ntmps92;go_wp2;go_ret;exact⟨rfl,iz.alloc _ _⟩
    .have:b=v:=Vj HB.out (by simp[h1,h2,h3]);have Bq:((y:Int) != 0)=true:= aN ;clear HB;subst this;go_enter func92,ntmps92;go_wp2_with fail;refine(H.out _ (hs.alloc _) h1).mono ?_;rintro r w' ⟨rfl,mo⟩;go_wp2;go_ret;exact⟨rfl,(iz.alloc _ _).trans mo⟩
   .have:b=false:=qg HB.out (λh=>h2 h.2.1);have kz:((x:Int)%2==1)=false:= aN ;clear HB;subst this;go_enter func92,ntmps92;go_wp2;go_ret;exact⟨rfl,iz.alloc _ _⟩
  .have:b=false:=qg HB.out (λh=>h1 h.1);have rE:decide ((n:Int)<=256)=false:= aN ;clear HB;subst this;go_enter func92,ntmps92;go_wp2;go_ret;exact⟨rfl,iz.alloc _ _⟩
def Kp{n k:Nat}(h:ib n<=32*k):(gV n).length<=k:=tG (by rw[qV];exact kV.1 h)
def Xi(d:Dy):nB d.neg (gV d.m) d.e↔d.gX:=by
 unfold nB;rw[jM];constructor
 .exact λh=>h.2.2
 .intro h;refine⟨vd _,?_,h⟩;rcases h.range with h0|⟨h1,_⟩
  .rw [h0,nI];simp
  .exact Kp aC 
def nB.CI{s:Bool}{L:List Nat}{e:Int}(h:nB s L e)(hk:iD L):L=gV (val L):=h.1.CI hk
def nB.len{s:Bool}{L:List Nat}{e:Int}(h:nB s L e):L.length<=256:=h.2.1
def nB.bits{s:Bool}{L:List Nat}{e:Int}(h:nB s L e):ib (val L)<=4096:=by
 rcases h.2.2.range with h0|⟨h1,_⟩
 .simp only at h0;rw[h0];decide
 .exact h1
def nB.exp{s:Bool}{L:List Nat}{e:Int}(h:nB s L e):-16384<=e/\e<=16384:=by
 rcases h.2.2.range with h0|⟨_,h1,h2,_⟩
 .rcases h.2.2.canon with⟨_,_,h3⟩|h3
  .simp only at h3;omega
  .simp only at h0 h3;omega
 .exact ⟨h1,h2⟩
def IM(s:Bool)(A:Option Addr)(c:Nat)(L:List Nat)(e:Int)(w:World)(hs:Sl w A c L)(hd:nB s L e):
 Calls prog 216 #[.agg #[.bool s,.slice A L.length c,.int .i64 e]] w λr w'=>r = .returned (.int .i64 (Dy.ij ⟨s,val L,e⟩))/\iz w w':=by
 obtain⟨lh,kx⟩:=hd.exp;have hl:=hd.len;have hbt:=hd.bits;have HV:=ahF (λw (h:Sl w A c L)=>zw s A c L e w true h aC aC (by simp[hd]));have HS:=ahF (λw (h:Sl w A c L)=>IL A c L w h aC);by_cases h0:L=[]
 .subst h0;go_enter func216,ntmps216;go_wp2_with fail;refine(HV.out _ (hs.alloc _)).mono ?_;rintro r w' ⟨rfl,hb⟩;have bx:=(ji.new w s A 0 c e).ext hb;have b0:=bx.c0;have b1:=bx.c1;have b2:=bx.c2;go_wp2;go_ret;exact⟨rfl,(iz.alloc _ _).trans hb⟩
 .have re:0<L.length:=ef.2 h0;have rh:val L≠0:=by have:=hd.1.xy h0;omega
  have ht:=ahF (show Dy.ij ⟨s,val L,e⟩=ib (val L)+e by unfold Dy.ij;rw[aY rh]);clear h0 rh;generalize Dy.ij ⟨s,val L,e⟩=t at *
  generalize ib (val L)=q at *
  have hw:IntKind.i64.wrap ((q:Int)+e)=q+e:=i64_in _ aC aC;have pV:((L.length:Int)==0)=false:=aT aC;go_enter func216,ntmps216;go_wp2_with fail;refine(HV.out _ (hs.alloc _)).mono ?_;rintro r w' ⟨rfl,hb⟩;have bx:=(ji.new w s A L.length c e).ext hb;have b0:=bx.c0;have b1:=bx.c1;have b2:=bx.c2;have ni:=(hs.alloc _).below hb;go_wp2_with fail;go_region_held3 (λw'=>w'.cell? ⟨w.heap.size,1,none⟩=some (.slice A L.length c)/\w'.cell? ⟨w.heap.size,2,none⟩=some (.int .i64 e)) (go_keep)
   (first|(go_at_call 245;refine(HS.out _ ?_).mono ?_;(exact ni.drew);rintro r w'' ⟨rfl,rfl⟩))
  go_wp2;go_ret;exact⟨nd (by rw[ht.out]),Below.drew ((iz.alloc _ _).trans hb)⟩
def Xj(s:Bool)(A:Option Addr)(c:Nat)(L:List Nat)(e:Int)(w:World)(hs:Sl w A c L)(hd:nB s L e):
 Calls prog 306 #[.agg #[.bool s,.slice A L.length c,.int .i64 e]] w λr w'=>r = .returned (.int .i64 (ib (val L)))/\iz w w':=by
 obtain⟨lh,kx⟩:=hd.exp;have hl:=hd.len;have HV:=ahF (λw (h:Sl w A c L)=>zw s A c L e w true h aC aC (by simp[hd]));have HS:=ahF (λw (h:Sl w A c L)=>IL A c L w h aC);go_enter func306,ntmps306;go_wp2_with fail;refine(HV.out _ (hs.alloc _)).mono ?_;rintro r w' ⟨rfl,hb⟩;have bx:=(ji.new w s A L.length c e).ext hb;have b0:=bx.c0;have b1:=bx.c1;have b2:=bx.c2;go_wp2_with fail;refine(HS.out _ ((hs.alloc _).below hb)).mono ?_;rintro r w' ⟨rfl,rfl⟩;go_wp2;go_ret;exact⟨rfl,(iz.alloc _ _).trans hb⟩
def IK(s:Bool)(A:Option Addr)(c:Nat)(L:List Nat)(e:Int)(w:World)(hs:Sl w A c L)(hd:nB s L e):
 Calls prog 46 #[.agg #[.bool s,.slice A L.length c,.int .i64 e]] w λr w'=>r = .returned (.int .i64 (Dy.iJ ⟨s,val L,e⟩))/\iz w w':=by
 obtain⟨lh,kx⟩:=hd.exp;have hl:=hd.len;have HV:=ahF (λw (h:Sl w A c L)=>zw s A c L e w true h aC aC (by simp[hd]));by_cases h0:L=[]
 .subst h0;go_enter func46,ntmps46;go_wp2_with fail;refine(HV.out _ (hs.alloc _)).mono ?_;rintro r w' ⟨rfl,hb⟩;have bx:=(ji.new w s A 0 c e).ext hb;have b0:=bx.c0;have b1:=bx.c1;have b2:=bx.c2;go_wp2;go_ret;exact⟨rfl,(iz.alloc _ _).trans hb⟩
 .have re:0<L.length:=ef.2 h0;have rh:val L≠0:=by have:=hd.1.xy h0;omega
  have ht:=ahF (show Dy.iJ ⟨s,val L,e⟩=if s then -1 else 1 by unfold Dy.iJ;rw[aY rh]);clear h0 rh;generalize Dy.iJ ⟨s,val L,e⟩=t at *
  have pV:((L.length:Int)==0)=false:=aT aC;go_enter func46,ntmps46;go_wp2_with fail;refine(HV.out _ (hs.alloc _)).mono ?_;rintro r w' ⟨rfl,hb⟩;have bx:=(ji.new w s A L.length c e).ext hb;have b0:=bx.c0;have b1:=bx.c1;have b2:=bx.c2;cases s
  .go_wp2;go_ret;exact⟨nd (by rw[ht.out];rfl),(iz.alloc _ _).trans hb⟩
  .go_wp2;go_ret;exact⟨nd (by rw[ht.out];rfl),(iz.alloc _ _).trans hb⟩
def Yj(e:Int)(w:World)(b:Bool)(hb:b=true↔(-32768<=e/\e<=32768)):
 Calls prog 253 #[.int .i64 e] w λr w'=>r = .returned (.bool b)/\w=w':=by
 by_cases h1:-32768<=e
 .have d1:decide (-32768<=e)=true:=by simpa using h1
  by_cases h2:e<=32768
  .have d2:decide (e<=32768)=true:=by simpa using h2
   have:=Ih hb ⟨h1,h2⟩;clear hb;subst this;go_enter func253,ntmps253;go_wp2;go_ret;exact⟨rfl,rfl⟩
  .have d2:decide (e<=32768)=false:=by simpa using h2
   have:=qg hb (λh=>h2 h.2);clear hb;subst this;go_enter func253,ntmps253;go_wp2;go_ret;exact⟨rfl,rfl⟩
 .have d1:decide (-32768<=e)=false:=by simpa using h1
  have:=qg hb (λh=>h1 h.1);clear hb;subst this;go_enter func253,ntmps253;go_wp2;go_ret;exact⟨rfl,rfl⟩
def M8(d:Dy)(A:Option Addr)(c:Nat)(w:World)(hs:Sl w A c (gV d.m))(hl:(gV d.m).length<=100000000)(lh:-10000000<=d.e)(kx:d.e<=10000000)(hd:mN d):
 Calls prog 254 #[.agg #[.bool d.neg,.slice A (gV d.m).length c,.int .i64 d.e]] w (wB w d 0):=by
 obtain⟨s,m,e⟩:=d;simp only at *
 have hr:sH m e=true:=by unfold sH;exact bh hd
 have HV:=ahF (λw (h:Sl w A c (gV m))=>J7 s A c (gV m) e w h hl aC aC);rw[jM,hr]at HV;clear hr hd;go_enter func254,ntmps254;go_wp2_with fail;refine(HV.out _ ((hs.alloc _).alloc _)).mono ?_;rintro r w' ⟨rfl,hb⟩;have bx:=((ji.new w s A (gV m).length c e).alloc (.cells #[.bool false,.slice none 0 0,.int .i64 0] 39)).ext hb;have by_:=(ji.new (w.alloc (.cells #[.bool s,.slice A (gV m).length c,.int .i64 e] 39)) false none 0 0 0).ext hb;have b0:=bx.c0;have b1:=bx.c1;have b2:=bx.c2;have bz:(w.alloc (.cells #[.bool s,.slice A (gV m).length c,.int .i64 e] 39)).heap.size=w.heap.size+1:= aH ;rw[bz]at by_;have c0:=by_.c0;have c1:=by_.c1;have c2:=by_.c2;have f0:=by_.fr 0;have f1:=by_.fr 1;have f2:=by_.fr 2;have ni:=((hs.alloc (.cells #[.bool s,.slice A (gV m).length c,.int .i64 e] 39)).alloc (.cells #[.bool false,.slice none 0 0,.int .i64 0] 39)).below hb;have mo:iz w w':=((iz.alloc _ _).trans (iz.alloc _ _)).trans hb;clear bz;go_wp2;exact A6 rfl rfl rfl rfl (by_.set _ _ _ _ _) rfl (by_.sP ni _ _ _ _ _) (ji.rX mo aC _ _ _ _ _)
def Wu(d:Dy)(A:Option Addr)(c:Nat)(w:World)(hs:Sl w A c (gV d.m))(hl:(gV d.m).length<=100000000)(lh:-10000000<=d.e)(kx:d.e<=10000000)(hd:¬mN d):
 Calls prog 254 #[.agg #[.bool d.neg,.slice A (gV d.m).length c,.int .i64 d.e]] w (wB w jt 9):=by
 obtain⟨s,m,e⟩:=d;simp only at *
 have hr:sH m e=false:=by unfold sH;exact bg hd
 have HV:=ahF (λw (h:Sl w A c (gV m))=>J7 s A c (gV m) e w h hl aC aC);rw[jM,hr]at HV;clear hr hd;go_enter func254,ntmps254;go_wp2_with fail;refine(HV.out _ ((hs.alloc _).alloc _)).mono ?_;rintro r w' ⟨rfl,hb⟩;have by_:=(ji.new (w.alloc (.cells #[.bool s,.slice A (gV m).length c,.int .i64 e] 39)) false none 0 0 0).ext hb;have bz:(w.alloc (.cells #[.bool s,.slice A (gV m).length c,.int .i64 e] 39)).heap.size=w.heap.size+1:= aH ;rw[bz]at by_;have c0:=by_.c0;have c1:=by_.c1;have c2:=by_.c2;have f0:=by_.fr 0;have f1:=by_.fr 1;have f2:=by_.fr 2;have mo:iz w w':=((iz.alloc _ _).trans (iz.alloc _ _)).trans hb;have hz:gV jt.m=[]:=nI;have HZ:=ahF hz;clear bz hz;go_wp2;exact A6 rfl rfl rfl rfl (by_.set _ _ _ _ _) (by rw[HZ.out];rfl) (by rw[HZ.out];exact by_.sP (Sl.nil _) _ _ _ _ _) (ji.rX mo aC _ _ _ _ _)
def abK(s:Bool)(A:Option Addr)(c:Nat)(L:List Nat)(e:Int)(w:World)(hs:Sl w A c L)(hlen:L.length<=256)(lh:-32768<=e)(kx:e<=32768)(rB:Tb w)(hd:mN (canon s (val L) e)):
 Calls prog 362 #[.bool s,.slice A L.length c,.int .i64 e] w (wB w (canon s (val L) e) 0):=by
 have C3:decide (256<(L.length:Int))=false:=bg aC;have HE:=ahF (λw=>Yj e w true (by simp[lh,kx]));have HC:=ahF (λw (h:Sl w A c L) (ht:Tb w)=>Fe s A c L e w h aC (by have:=nX L;unfold lu at this;omega) aC aC ht);have jW:(gV (canon s (val L) e).m).length<=100000000:=by
  unfold canon;split
  .simp [nI]
  .refine bj (tG (k:=256) (cr (bU _ _) ?_)) aE ;exact bM (mQ hs.ok) (bH aE hlen)
 have mh:-10000000<=(canon s (val L) e).e/\(canon s (val L) e).e<=10000000:=by
  unfold canon;split
  .simp
  .rename_i h0;have:=Cw hs.ok h0;simp only;omega
 obtain⟨mh,pT⟩:=mh;have HK:=ahF (λA c w (h:Sl w A c (gV (canon s (val L) e).m))=>M8 _ A c w h jW mh pT hd);generalize canon s (val L) e=d at *
 clear hd jW mh pT;go_enter func362,ntmps362;go_wp2_with fail;refine(HE.out _).mono ?_;rintro r w' ⟨rfl,rfl⟩;go_wp2_with fail;refine(HC.out _ (hs.alloc _) (rB.alloc _)).mono ?_;rintro r w1 ⟨A1,c1,rfl,sF,jW⟩;go_wp2_with fail;refine(HK.out _ _ _ sF).mono ?_;rintro r w2 ⟨A2,c2,rfl,jS,mh⟩;have hb:=jW.trans mh;have bx:=(ji.new w false none 0 0 0).ext hb;have b0:=bx.c0;have b1:=bx.c1;have b2:=bx.c2;have f0:=bx.fr 0;have f1:=bx.fr 1;have f2:=bx.fr 2;go_wp2;exact A6 rfl rfl rfl rfl (bx.set _ _ _ _ _) rfl (bx.sP jS _ _ _ _ _) (ji.rX ((iz.alloc _ _).trans hb) (bd _) _ _ _ _ _)
def af0(x:Nat)(hx:x<4294967296):bits BinOp.and IntKind.u32 (x:Int) 1=((x%2:Nat):Int):=by
 rw[show(1:Int)=((1:Nat):Int)from rfl,bits_and_u32_nat _ _ hx aE,Nat.and_one_is_mod]
def aaA{m:Nat}(h0:m≠0)(e:Int):sH m e=true↔(ib m<=4096 /\ -16384<=e/\e<=16384/\(ib m:Int)+e<=16384):=by
 have h:sH m e=true↔mN ⟨false,m,e⟩:=gi;rw[h];constructor
 .rintro (h|h)
  .exact absurd h h0
  .exact h
 .exact λh=>.inr h
def GH(s:Bool)(A:Option Addr)(c:Nat)(L:List Nat)(e:Int)(w:World)(b:Bool)(hs:Sl w A c L)(lh:-9223372036854775808<=e)(kx:e<=9223372036854775807)(hb:b=true↔nB s L e):
 Calls prog 96 #[.agg #[.bool s,.slice A L.length c,.int .i64 e]] w λr w'=>r = .returned (.bool b)/\iz w w':=by
 have Bl:=hs.cap;have yh:=hs.pq;by_cases hL:L=[]
 .subst hL;rw[NQ]at hb;cases s
  .by_cases h:e=0
   .subst h;have:b=true:=by simpa using hb
    clear hb;subst this;go_enter func96,ntmps96;go_wp2;go_ret;exact⟨rfl,iz.alloc _ _⟩
   .have:b=false:=qg hb (by simp[h]);have h':(e==0)=false:= aN ;clear hb;subst this;go_enter func96,ntmps96;go_wp2;go_ret;exact⟨rfl,iz.alloc _ _⟩
  .have:b=false:=qg hb aH ;clear hb;subst this;go_enter func96,ntmps96;go_wp2;go_ret;exact⟨rfl,iz.alloc _ _⟩
 .have re:0<L.length:=ef.2 hL;obtain⟨ab,ao,rfl,_,c1⟩:=hs.kD re;obtain⟨ab',ao',e',_,c2⟩:=hs.kD (i:=L.length-1) aC;cases e';have lN:=hs.ok.get re;have oK:=hs.ok.get (aC:L.length-1<L.length);rw[NP (bt re) (bt (aC:L.length-1<L.length))]at hb;have c1':w.cell? ⟨ab,ao,none⟩=some (.int .u32 (L[0]:Int)):=c1;have O5:=ahF (show L[L.length-1]≠0->mB L from λh=>(yY L).2 (λ_=>h));have ux:=ahF (show L[L.length-1]≠0->val L≠0 from λh=>by have:=((yY L).2 (λ_=>h)).xy hL;omega);clear c1 hL;generalize L[0]=x at *
  generalize L[L.length-1]=y at *
  have HB:=ahF hb;clear hb;have H:=ahF (λw (h:Sl w (some ⟨ab,ao,none⟩) c L) (hl:L.length<=256) (ht:mB L)=>Su _ c L w h ht aC);have hr:Hid (val L≠0->(sH (val L) e=true↔(ib (val L)<=4096 /\ -16384<=e/\e<=16384/\(ib (val L):Int)+e<=16384))):=λh0=>by
   exact aaA h0 e
  obtain⟨n,hn⟩:∃ n,n=L.length:=⟨_,rfl⟩
  rw[<-hn]at re c2 H HB Bl ⊢;have HN:=ahF hn;clear hn;have pV:((n:Int)==0)=false:= aN ;by_cases h1:n<=256
  .have rE:decide (256<(n:Int))=false:=bg aC ;by_cases h3:y=0
   .have:b=false:=qg HB.out (by simp[h3]);have Bq:((y:Int)==0)=true:= aN ;clear HB hr;subst this;go_enter func96,ntmps96;go_wp2;go_ret;exact⟨rfl,iz.alloc _ _⟩
   .have Bq:((y:Int)==0)=false:=aT aC ;have hand:=af0 x lN;by_cases h2:x%2=1
    .have kz:(bits BinOp.and IntKind.u32 (x:Int) 1==0)=false:=by rw[hand,h2];rfl
     clear hand;have h0:=ux.out h3;have zU:=O5.out h3;have wR:ib (val L)<=32*n:=kV.2 (by rw[<-qV,HN.out];exact mQ hs.ok);have HB2:Hid (b=true↔(ib (val L)<=4096 /\ -16384<=e/\e<=16384/\(ib (val L):Int)+e<=16384)):=by
      show b=true↔_;rw[HB.out,hr.out h0];simp[h1,h2,h3]
     have H2:=ahF (λw h=>H.out w h h1 zU);clear HB hr h0 zU O5 ux H;generalize ib (val L)=q at *
     by_cases h4:-16384<=e
     .have d4:decide (e < -16384)=false:=bg aC ;by_cases h5:e<=16384
      .have d5:decide (16384<e)=false:=bg aC ;by_cases h6:q<=4096
       .have d6:decide ((q:Int)<=4096)=true:=bh aC ;by_cases h7:(q:Int)+e<=16384
        .have d7:decide ((q:Int)+e<=16384)=true:=bh h7;have:=Ih HB2.out ⟨h6,h4,h5,h7⟩;clear HB2;subst this;go_enter func96,ntmps96;go_wp2_with fail;refine(H2.out _ (hs.alloc _)).mono ?_;rintro r w' ⟨rfl,rfl⟩;go_wp2;go_ret;exact⟨rfl,iz.alloc _ _⟩
        .have d7:decide ((q:Int)+e<=16384)=false:=bg h7;have:=qg HB2.out (λh=>h7 h.2.2.2);clear HB2;subst this;go_enter func96,ntmps96;go_wp2_with fail;refine(H2.out _ (hs.alloc _)).mono ?_;rintro r w' ⟨rfl,rfl⟩;go_wp2;go_ret;exact⟨rfl,iz.alloc _ _⟩
       .have d6:decide ((q:Int)<=4096)=false:=bg aC ;have:=qg HB2.out (λh=>h6 h.1);clear HB2;subst this;go_enter func96,ntmps96;go_wp2_with fail;refine(H2.out _ (hs.alloc _)).mono ?_;rintro r w' ⟨rfl,rfl⟩;go_wp2;go_ret;exact⟨rfl,iz.alloc _ _⟩
      .have d5:decide (16384<e)=true:=bh aC ;have:=qg HB2.out (λh=>h5 h.2.2.1);clear HB2;subst this;go_enter func96,ntmps96;go_wp2;go_ret;exact⟨rfl,iz.alloc _ _⟩
     .have d4:decide (e < -16384)=true:=bh aC ;have:=qg HB2.out (λh=>h4 h.2.1);clear HB2;subst this;go_enter func96,ntmps96;go_wp2;go_ret;exact⟨rfl,iz.alloc _ _⟩
    .have kz:(bits BinOp.and IntKind.u32 (x:Int) 1==0)=true:=by rw[hand,(aC:x%2=0)];rfl
     have:b=false:=qg HB.out (λh=>h2 h.2.1);clear HB hand hr;subst this;go_enter func96,ntmps96;go_wp2;go_ret;exact⟨rfl,iz.alloc _ _⟩
  .have:b=false:=qg HB.out (λh=>h1 h.1);have rE:decide (256<(n:Int))=true:=bh aC;clear HB hr;subst this;go_enter func96,ntmps96;go_wp2;go_ret;exact⟨rfl,iz.alloc _ _⟩
def adH(e:Int)(w:World)(b:Bool)(hb:b=true↔(-32768<=e/\e<=32768)):
 Calls prog 184 #[.int .i64 e] w λr w'=>r = .returned (.bool b)/\w=w':=by
 by_cases h1:-32768<=e
 .have d1:decide (-32768<=e)=true:=by simpa using h1
  by_cases h2:e<=32768
  .have d2:decide (e<=32768)=true:=by simpa using h2
   have:=Ih hb ⟨h1,h2⟩;clear hb;subst this;go_enter func184,ntmps184;go_wp2;go_ret;exact⟨rfl,rfl⟩
  .have d2:decide (e<=32768)=false:=by simpa using h2
   have:=qg hb (λh=>h2 h.2);clear hb;subst this;go_enter func184,ntmps184;go_wp2;go_ret;exact⟨rfl,rfl⟩
 .have d1:decide (-32768<=e)=false:=by simpa using h1
  have:=qg hb (λh=>h1 h.1);clear hb;subst this;go_enter func184,ntmps184;go_wp2;go_ret;exact⟨rfl,rfl⟩
def adF(d:Dy)(A:Option Addr)(c:Nat)(w:World)(hs:Sl w A c (gV d.m))(hl:(gV d.m).length<=100000000)(lh:-10000000<=d.e)(kx:d.e<=10000000)(hd:d.gX):
 Calls prog 185 #[.agg #[.bool d.neg,.slice A (gV d.m).length c,.int .i64 d.e]] w (wB w d 0):=by
 obtain⟨s,m,e⟩:=d;simp only at *
 have HV:=ahF (λw (h:Sl w A c (gV m))=>GH s A c (gV m) e w true h aC aC (iff_of_true rfl ((Xi ⟨s,m,e⟩).2 hd)));clear hd;go_enter func185,ntmps185;go_wp2_with fail;refine(HV.out _ ((hs.alloc _).alloc _)).mono ?_;rintro r w' ⟨rfl,hb⟩;have bx:=((ji.new w s A (gV m).length c e).alloc (.cells #[.bool false,.slice none 0 0,.int .i64 0] 39)).ext hb;have by_:=(ji.new (w.alloc (.cells #[.bool s,.slice A (gV m).length c,.int .i64 e] 39)) false none 0 0 0).ext hb;have b0:=bx.c0;have b1:=bx.c1;have b2:=bx.c2;have bz:(w.alloc (.cells #[.bool s,.slice A (gV m).length c,.int .i64 e] 39)).heap.size=w.heap.size+1:= aH ;rw[bz]at by_;have c0:=by_.c0;have c1:=by_.c1;have c2:=by_.c2;have f0:=by_.fr 0;have f1:=by_.fr 1;have f2:=by_.fr 2;have ni:=((hs.alloc (.cells #[.bool s,.slice A (gV m).length c,.int .i64 e] 39)).alloc (.cells #[.bool false,.slice none 0 0,.int .i64 0] 39)).below hb;have mo:iz w w':=((iz.alloc _ _).trans (iz.alloc _ _)).trans hb;clear bz;go_wp2;exact A6 rfl rfl rfl rfl (by_.set _ _ _ _ _) rfl (by_.sP ni _ _ _ _ _) (ji.rX mo aC _ _ _ _ _)
def adU(s:Bool)(A:Option Addr)(c:Nat)(L:List Nat)(e:Int)(w:World)(hs:Sl w A c L)(ht:mB L):
 Calls prog 53 #[.agg #[.bool s,.slice A L.length c,.int .i64 e]] w λr w'=>r = .returned (.int .i64 (Dy.iJ ⟨s,val L,e⟩))/\iz w w':=by
 have hl:=hs.len;by_cases h0:L=[]
 .subst h0;go_enter func53,ntmps53;go_wp2;go_ret;exact⟨rfl,iz.alloc _ _⟩
 .have re:0<L.length:=ef.2 h0;have rh:val L≠0:=by have:=ht.xy h0;omega
  have ht:=ahF (show Dy.iJ ⟨s,val L,e⟩=if s then -1 else 1 by unfold Dy.iJ;rw[aY rh]);clear h0 rh;generalize Dy.iJ ⟨s,val L,e⟩=t at *
  have pV:((L.length:Int)==0)=false:=aT aC;cases s
  .go_enter func53,ntmps53;go_wp2;go_ret;exact⟨nd (by rw[ht.out];rfl),iz.alloc _ _⟩
  .go_enter func53,ntmps53;go_wp2;go_ret;exact⟨nd (by rw[ht.out];rfl),iz.alloc _ _⟩
def adX(s:Bool)(A:Option Addr)(c:Nat)(L:List Nat)(e:Int)(w:World)(hs:Sl w A c L)(ht:mB L)(hl:L.length<=100000)(lh:-1000000<=e)(kx:e<=1000000):
 Calls prog 171 #[.agg #[.bool s,.slice A L.length c,.int .i64 e]] w λr w'=>r = .returned (.int .i64 (Dy.ij ⟨s,val L,e⟩))/\iz w w':=by
 have HS:=ahF (λw (h:Sl w A c L)=>Su A c L w h ht aC);have wR:ib (val L)<=32*L.length:=kV.2 (by rw[<-qV];exact mQ hs.ok);by_cases h0:L=[]
 .subst h0;go_enter func171,ntmps171;go_wp2;go_ret;exact⟨rfl,iz.alloc _ _⟩
 .have re:0<L.length:=ef.2 h0;have rh:val L≠0:=by have:=ht.xy h0;omega
  have ht:=ahF (show Dy.ij ⟨s,val L,e⟩=ib (val L)+e by unfold Dy.ij;rw[aY rh]);clear h0 rh;generalize Dy.ij ⟨s,val L,e⟩=t at *
  generalize ib (val L)=q at *
  have hw:IntKind.i64.wrap ((q:Int)+e)=q+e:=i64_in _ aC aC;have pV:((L.length:Int)==0)=false:=aT aC;have ni:=hs.alloc (.cells #[.bool s,.slice A L.length c,.int .i64 e] 39);go_enter func171,ntmps171;go_wp2_with fail;go_region_held3 (λw'=>w'.cell? ⟨w.heap.size,1,none⟩=some (.slice A L.length c)/\w'.cell? ⟨w.heap.size,2,none⟩=some (.int .i64 e)) (go_keep)
   (first|(go_at_call 170;refine(HS.out _ ?_).mono ?_;(exact ni.drew);rintro r w'' ⟨rfl,rfl⟩))
  go_wp2;go_ret;exact⟨nd (by rw[ht.out]),Below.drew (iz.alloc _ _)⟩
def adO(s:Bool)(A:Option Addr)(c:Nat)(L:List Nat)(e:Int)(w:World)(hs:Sl w A c L)(ht:mB L):
 Calls prog 146 #[.agg #[.bool s,.slice A L.length c,.int .i64 e]] w (vj w (jv ⟨s,val L,e⟩)):=by
 have hl:=hs.len;have HL:=ahF (ht.CI hs.ok);by_cases h0:L=[]
 .subst h0;have HZ:=ahF nI;cases s
  .go_enter func146,ntmps146;go_wp2;exact sr (d:=jv ⟨false,val [],e⟩) rfl rfl rfl (ji.rS aH _ _ _ _ _) (by show _=(gV 0).length;rw[HZ.out];rfl) (by show Sl _ _ _ (gV 0);rw[HZ.out];exact(hs.alloc _).alloc _) ((iz.alloc _ _).trans (iz.alloc _ _))
  .go_enter func146,ntmps146;go_wp2;exact sr (d:=jv ⟨true,val [],e⟩) rfl rfl rfl (ji.rS aH _ _ _ _ _) (by show _=(gV 0).length;rw[HZ.out];rfl) (by show Sl _ _ _ (gV 0);rw[HZ.out];exact(hs.alloc _).alloc _) ((iz.alloc _ _).trans (iz.alloc _ _))
 .have re:0<L.length:=ef.2 h0;have rh:val L≠0:=by have:=ht.xy h0;omega
  have hd:=ahF (show jv ⟨s,val L,e⟩=⟨!s,val L,e⟩by unfold jv;simp[rh]);clear h0 rh ht;rw[hd.out];cases s
  .go_enter func146,ntmps146;go_wp2;exact sr (d:=⟨!false,val L,e⟩) rfl rfl rfl (ji.rS aH _ _ _ _ _) (by show _=(gV (val L)).length;rw[<-HL.out]) (by show Sl _ _ _ (gV (val L));rw[<-HL.out];exact(hs.alloc _).alloc _) ((iz.alloc _ _).trans (iz.alloc _ _))
  .go_enter func146,ntmps146;go_wp2;exact sr (d:=⟨!true,val L,e⟩) rfl rfl rfl (ji.rS aH _ _ _ _ _) (by show _=(gV (val L)).length;rw[<-HL.out]) (by show Sl _ _ _ (gV (val L));rw[<-HL.out];exact(hs.alloc _).alloc _) ((iz.alloc _ _).trans (iz.alloc _ _))
def Sl.G7(w:World)(g:Nat)(hg:w.heap.size=g)(y z:Int)(p q:Nat)(e:y=(p:Int))(e':z=(q:Int))(hp:p<4294967296)(hq:q<4294967296):
 Sl (w.alloc (.cells #[.int .u32 y,.int .u32 z] 150)) (some ⟨g,0,none⟩) 2 [p,q]:=by
 subst e e' hg;refine⟨bd _,aE,iD.cons hp (iD.cons hq iD.nil),(λh=>by cases h),λi y hy=>?_⟩;obtain⟨h1,h2⟩:=b9.1 hy;simp at h1;refine⟨_,_,rfl,aH,?_⟩;rw[bW,World.cell?_alloc_at _ _ _ _ rfl];rcases i with _|_|i
 .simp at h2;subst h2;rfl
 .simp at h2;subst h2;rfl
 .omega
def adK(n:Nat)(w:World)(hn:n<4294967296):
 Calls prog 112 #[.int .i64 n] w (vj w (canon false n 0)):=by
 have hm:=wG n aC;have uE:(n:Int)%4294967296=n:= aC ;rw[uE]at hm;have hd:(n:Int)/4294967296=0:= aC ;have iA:¬(n:Int)<0:= aC ;have FI:decide ((n:Int)<0)=false:=bg iA;have hu:IntKind.u64.wrap (n:Int)=n:=by rw[IntKind.wrap_u64];omega
 have HC:=ahF (λ(A:Option Addr) c w (h:Sl w A c [n,0])=>GF false A c [n,0] 0 w h aH aE aE);have hv:val [n,0]=n:= aH ;rw[hv]at HC;clear hv;generalize canon false n 0=d at *
 go_enter func112,ntmps112;go_wp2_with fail;refine(HC.out _ _ _ (Sl.G7 _ _ aH _ _ n 0 rfl rfl hn aE)).mono ?_;rintro r w1 ⟨A1,c1,rfl,sF,jW⟩;have oG:iz (w.alloc (.cells #[.bool false,.slice none 0 0,.int .i64 0] 39)) w1:=(iz.alloc _ _).trans jW;have bx:=(ji.new w false none 0 0 0).ext oG;have b0:=bx.c0;have b1:=bx.c1;have b2:=bx.c2;have f0:=bx.fr 0;have f1:=bx.fr 1;have f2:=bx.fr 2;go_wp2;exact sr rfl rfl rfl (bx.set _ _ _ _ _) rfl (bx.sP sF _ _ _ _ _) (ji.rX ((iz.alloc _ _).trans oG) (bd _) _ _ _ _ _)
end Go.Proofs.YtkjkcjhacddojaaGreatDoor
namespace Go.Proofs.YtkjkcjhacddojaaGreatDoor.Fp
def Cs(s:Bool)(e:Int):canon s 0 e=jt:=by unfold canon;rw[aZ rfl];rfl
def EZ(s:Bool)(x:Nat)(k:Int):nL (if s then -(x:Int)else(x:Int)) k=canon s x k:=by
 unfold nL;cases s
 .have h:decide ((x:Int)<0)=false:=bg aC ;simp only[bA,bq];rw[h,fE]
 .by_cases h:x=0
  .subst h;simp[Cs]
  .have h:decide (-(x:Int)<0)=true:=bh aC ;simp only[bD];rw[h,ahf,fE]
def afq{s:Bool}{m n:Nat}{e f k:Int}(hm:m≠0)(hn:n≠0)(hk:min e f=k):
 iN ⟨s,m,e⟩ ⟨s,n,f⟩=canon s (m*2^(e-k).toNat+n*2^(f-k).toNat) k:=by
 unfold iN;rw[aY hm,aY hn];simp only[hk];rw[<-EZ];unfold Dy.num Dy.jD;cases s
 .simp
 .simp;congr 1;omega
def afo{s t:Bool}{m n:Nat}{e f k:Int}(hm:m≠0)(hn:n≠0)(hk:min e f=k)(hs:s≠t)(qQ:n*2^(f-k).toNat<=m*2^(e-k).toNat):
 iN ⟨s,m,e⟩ ⟨t,n,f⟩=canon s (m*2^(e-k).toNat-n*2^(f-k).toNat) k:=by
 unfold iN;rw[aY hm,aY hn];simp only[hk];rw[<-EZ];unfold Dy.num Dy.jD;simp only;generalize m*2^(e-k).toNat=x at *
 generalize n*2^(f-k).toNat=y at *
 congr 1;cases s<;>cases t<;>simp at hs ⊢ <;> omega
def afp{s t:Bool}{m n:Nat}{e f k:Int}(hm:m≠0)(hn:n≠0)(hk:min e f=k)(hs:s≠t)(iA:m*2^(e-k).toNat<n*2^(f-k).toNat):
 iN ⟨s,m,e⟩ ⟨t,n,f⟩=canon t (n*2^(f-k).toNat-m*2^(e-k).toNat) k:=by
 unfold iN;rw[aY hm,aY hn];simp only[hk];rw[<-EZ];unfold Dy.num Dy.jD;simp only;generalize m*2^(e-k).toNat=x at *
 generalize n*2^(f-k).toNat=y at *
 congr 1;cases s<;>cases t<;>simp at hs ⊢ <;> omega
def abq{L:List Nat}(h:iD L)(n:Nat):(gV (val L*2^n)).length<=L.length+n/32+1:=by
 refine tG ?_;have h1:=mQ h;rw[qV]at h1 ⊢;have h2:val L*2^n<2^(32*L.length)*2^n:=di h1 (bn aE);rw[<-bk]at h2;exact bM h2 (bH aE aC)
def abo{a b k:Nat}(ha:(gV a).length<=k)(hb:(gV b).length<=k):(gV (a+b)).length<=k+1:=by
 refine tG ?_;have h1:=DC ha;have h2:=DC hb;rw[bw];omega
def lH{a b:Nat}(h:a<=b):(gV a).length<=(gV b).length:=
 tG (cr h (DC (bd _)))
end Go.Proofs.YtkjkcjhacddojaaGreatDoor.Fp
namespace Go.Proofs.YtkjkcjhacddojaaGreatDoor
open Go.RowKit Fp
def lI(a b:Dy):Dy:=canon (a.neg != b.neg) (a.m*b.m) (a.e+b.e)
def abt{L:List Nat}{k:Nat}(h:iD L)(hl:L.length<=k):(gV (val L)).length<=k:=
 tG (bM (mQ h) (bH aE hl))
end Go.Proofs.YtkjkcjhacddojaaGreatDoor
namespace Go.Proofs.YtkjkcjhacddojaaGreatDoor.Fp
def abJ{d:Dy}{j k:Int}(h1:j<=k)(h2:k<=d.e):d.jD j=d.jD k*2^(k-j).toNat:=by
 unfold Dy.jD;rw[bu,<-bk];congr 2;omega
def Gq{d:Dy}{j k:Int}(h1:j<=k)(h2:k<=d.e):d.num j=d.num k*((2^(k-j).toNat:Nat):Int):=by
 unfold Dy.num;rw[abJ h1 h2];split
 .rw [eB,Int.neg_mul]
 .rw [eB]
def tL{d:Dy}(h:d.m=0)(k:Int):d.num k=0:=by
 unfold Dy.num;rw[Q5 h];split<;>rfl
def vq(x y:Int):Int:=if x<y then -1 else if y<x then 1 else 0
def Ng(x y:Int){p:Nat}(hp:0<p):vq (x*(p:Int)) (y*(p:Int))=vq x y:=by
 unfold vq;have h:(0:Int)<p:= aC ;have a:=@Int.mul_lt_mul_right (p:Int) x y h;have b:=@Int.mul_lt_mul_right (p:Int) y x h;simp only[a,b]
def pD(d:Dy)(k:Int):Prop:=d.m=0\/k<=d.e
def pD.num{d:Dy}{j k:Int}(h:pD d k)(hj:j<=k):d.num j=d.num k*((2^(k-j).toNat:Nat):Int):=by
 rcases h with h|h
 .rw [tL h,tL h,Int.zero_mul]
 .exact Gq hj h
def Ct{a b:Dy}{k:Int}(ha:pD a k)(hb:pD b k):jj a b=vq (a.num k) (b.num k):=by
 have e0:jj a b=vq (a.num (min a.e b.e)) (b.num (min a.e b.e)):=rfl;rw[e0];obtain⟨j,h1,h2⟩:∃ j:Int,j<=k/\j<=min a.e b.e:=⟨min k (min a.e b.e),aC,aC⟩
 have a1:=ha.num h1;have b1:=hb.num h1;have a2:=(show pD a (min a.e b.e)from .inr aC).num h2;have b2:=(show pD b (min a.e b.e)from .inr aC).num h2;rw[<-Ng _ _ (p:=2^(min a.e b.e-j).toNat) (bn aE),<-a2,<-b2,a1,b1,Ng _ _ (bn aE)]
def abH{s:Bool}{m:Nat}{e k:Int}(h:k<=e):(canon s m e).jD k=m*2^(e-k).toNat:=by
 unfold canon;split
 .rename_i h0;subst h0;simp[Dy.jD]
 .rename_i h0;unfold Dy.jD;simp only;have e1:=CE h0
  conv=>rhs;rw[<-e1]
  rw[bu,<-bk];congr 2;omega
def Am{s:Bool}{m:Nat}{e k:Int}(h:k<=e):(canon s m e).num k=if s then -((m*2^(e-k).toNat:Nat):Int)else((m*2^(e-k).toNat:Nat):Int):=by
 by_cases h0:m=0
 .subst h0;rw[tL (by simp[canon])];simp
 .have:(canon s m e).neg=s:=by unfold canon;rw[aY h0]
  unfold Dy.num;rw[abH h,this]
def RO{m:Nat}{e k:Int}(h:k<=e):(canon false m e).num k=((m*2^(e-k).toNat:Nat):Int):=by
 rw[Am h];simp
def KL{z e k:Int}(h:k<=e):(nL z e).num k=z*((2^(e-k).toNat:Nat):Int):=by
 unfold nL;rw[Am h];by_cases hz:z<0
 .simp only[hz,fF,bD];rw[eB,<-Int.neg_mul];congr 1;omega
 .simp only[hz,decide_false];rw[eB,show(z.natAbs:Int)=z by omega];simp
def xF{s:Bool}{m:Nat}{e k:Int}(h:k<=e):pD (canon s m e) k:=by
 unfold canon;split
 .exact .inl rfl
 .exact .inr (by simp only;omega)
def HI{z e k:Int}(h:k<=e):pD (nL z e) k:=xF h
def GY{a b:Dy}{k:Int}(ha:pD a k)(hb:pD b k):(iN a b).num k=a.num k+b.num k:=by
 unfold iN;by_cases h1:a.m=0
 .rw [aZ h1,tL h1,Int.zero_add]
 .rw [aY h1];by_cases h2:b.m=0
  .rw [aZ h2,tL h2,Int.add_zero]
  .rw [aY h2];have ea:k<=a.e:=by rcases ha with h|h;exact absurd h h1;exact h
   have eb:k<=b.e:=by rcases hb with h|h;exact absurd h h2;exact h
   have hm:k<=min a.e b.e:= aC ;rw[KL hm,Int.add_mul,<-Gq hm aC,<-Gq hm aC]
def EH{a b:Dy}{k:Int}(ha:pD a k)(hb:pD b k):pD (iN a b) k:=by
 unfold iN;by_cases h1:a.m=0
 .rw [aZ h1];exact hb
 .rw [aY h1];by_cases h2:b.m=0
  .rw [aZ h2];exact ha
  .rw [aY h2];have ea:k<=a.e:=by rcases ha with h|h;exact absurd h h1;exact h
   have eb:k<=b.e:=by rcases hb with h|h;exact absurd h h2;exact h
   exact HI aC 
def xM{a b:Dy}(ha:a.mf)(hb:b.mf):(iN a b).mf:=by
 unfold iN;split
 .exact hb
 .split
  .exact ha
  .exact sf _ _ _
def HW{d:Dy}{k:Int}(h:pD d k):pD (jv d) k:=h
def KM{d:Dy}(k:Int):(jv d).num k = -(d.num k):=by
 by_cases h:d.m=0
 .rw [tL h,tL (by exact h)];rfl
 .exact RP d k h
def NW{a b:Dy}(ha:a.mf)(hb:b.mf){k:Int}(h1:pD a k)(h2:pD b k)(h:a.num k=b.num k):a=b:=by
 have zero:∀ {d:Dy},d.mf->d.m=0->d=jt:=by
  intro d hd h0;obtain⟨s,m,e⟩:=d;rcases hd with⟨x,y,z⟩|hd
  .simp only at x y z;subst x y z;rfl
  .simp only at hd h0;omega
 have nz:∀ {d:Dy},d.num k=0->d.m=0:=by
  intro d hd;by_cases h0:d.m=0
  .exact h0
  .exfalso;have:=xg h0 k;unfold Dy.num at hd;split at hd<;>omega
 by_cases za:a.m=0
 .have zb:b.m=0:=nz (by rw[<-h];exact tL za k);rw[zero ha za,zero hb zb]
 .have zb:b.m≠0:=λzb=>za (nz (by rw[h];exact tL zb k))
  have oa:a.m%2=1:=by rcases ha with⟨x,_,_⟩|x;exact absurd x za;exact x
  have ob:b.m%2=1:=by rcases hb with⟨x,_,_⟩|x;exact absurd x zb;exact x
  have ea:k<=a.e:=by rcases h1 with h|h;exact absurd h za;exact h
  have eb:k<=b.e:=by rcases h2 with h|h;exact absurd h zb;exact h
  have pa:=xg za k;have pb:=xg zb k;have hm:a.neg=b.neg/\a.jD k=b.jD k:=by
   unfold Dy.num at h;cases x:a.neg<;>cases y:b.neg<;>simp[x,y]at h<;>first|exact⟨rfl,aC⟩|(exfalso;omega)
  have hc:=congrArg jq hm.2;unfold Dy.jD at hc;rw[wK oa,wK ob]at hc;have uE:=hm.2;unfold Dy.jD at uE;rw[hc]at uE;have vL:=ahx (bn aE) uE;obtain⟨s,m,e⟩:=a;obtain⟨t,n,f⟩:=b;simp only at *
  have:e=f:= aC ;rw[hm.1,vL,this]
end Go.Proofs.YtkjkcjhacddojaaGreatDoor.Fp
namespace Go.Proofs.YtkjkcjhacddojaaGreatDoor
open Go.RowKit Fp
def SZ(A:Option Addr)(c:Nat)(M:List Nat)(n:Int)(w:World)(jS:Sl w A c M)(hlen:M.length<=256)(h0:0<=n)(hn:n<=65536)(pH:(gV (val M*2^n.toNat)).length<=256):
 Calls prog 266 #[.slice A M.length c,.int .i64 n] w (r9 w (gV (val M*2^n.toNat))):=by
 obtain⟨k,rfl⟩:=gj h0;exact aeR A c M k w jS hlen aC pH
set_option maxHeartbeats 8000000 in
def Xo(s : Bool)(A : Option Addr)(c : Nat)(L : List Nat)(e : Int)(t : Bool)(B : Option Addr)(d : Nat)(M : List Nat)(f : Int)(w : World)
    (hs : Sl w A c L) (hr : Sl w B d M) (da : nB s L e) (db : nB t M f) (tg : val L≠0) (q9 : val M≠0):
    Calls prog 199 #[.agg #[.bool s,.slice A L.length c,.int .i64 e],.agg #[.bool t,.slice B M.length d,.int .i64 f]] w λr w' => r = .returned (.int .i64 (qZ ⟨s,val L,e⟩ ⟨t,val M,f⟩))/\iz w w' := by
  obtain⟨lh,kx⟩ := da.exp;obtain⟨hf1,hf2⟩ := db.exp;have hl := da.len;have hm := db.len;have hE : iz w ((w.alloc (.cells #[.bool s,.slice A L.length c,.int .i64 e] 39)).alloc (.cells #[.bool t,.slice B M.length d,.int .i64 f] 39)) := (iz.alloc _ _).trans (iz.alloc _ _);have kO := ((ji.new w s A L.length c e).alloc (.cells #[.bool t,.slice B M.length d,.int .i64 f] 39)).drew;have kW := (ji.rS (W := w.alloc (.cells #[.bool s,.slice A L.length c,.int .i64 e] 39)) (g := w.heap.size+1) aH t B M.length d f).drew;have wZ := (hs.below hE).drew;have zQ := (hr.below hE).drew;have HE := ahF (hE.trans (iz.drew _));clear hE;have HTa := ahF (λw (h : Sl w A c L) => IM s A c L e w h da);have HTb := ahF (λw (h : Sl w B d M) => IM t B d M f w h db);have Hlt := ahF (λh => Ni (a := ⟨s,val L,e⟩) (b := ⟨t,val M,f⟩) tg q9 h);have Hgt := ahF (λh => Nh (a := ⟨s,val L,e⟩) (b := ⟨t,val M,f⟩) tg q9 h);have Hta := ahF (show Dy.ij ⟨s,val L,e⟩=ib (val L)+e by unfold Dy.ij;rw[aY tg]);have Htb := ahF (show Dy.ij ⟨t,val M,f⟩=ib (val M)+f by unfold Dy.ij;rw[aY q9]);obtain⟨k,hk⟩ : ∃ k,min e f=k := ⟨_,rfl⟩
  have hke : k<=e := aC ;have hkf : k<=f := aC ;have mK : -17000<=k := aC ;have JK := ahF (aC:k=e\/k=f);have Qe : IntKind.i64.wrap (e-k)=e-k := i64_in _ aC aC;have hwf : IntKind.i64.wrap (f-k)=f-k := i64_in _ aC aC;have HM := ahF (show qZ ⟨s,val L,e⟩ ⟨t,val M,f⟩=jZ (val L*2^(e-k).toNat) (val M*2^(f-k).toNat)by unfold qZ;simp only[hk];rfl);have Hfa := ahF (show ib (val L)+e=ib (val M)+f->ib (val L*2^(e-k).toNat)<=4096 from λh => by
    rw[qh tg];have := da.bits;have := db.bits;have := JK.out;omega)
  have Hfb := ahF (show ib (val L)+e=ib (val M)+f->ib (val M*2^(f-k).toNat)<=4096 from λh => by
    rw[qh q9];have := da.bits;have := db.bits;have := JK.out;omega)
  have HXa := ahF (λw (h : Sl w A c L) pH => SZ A c L (e-k) w h hl aC aC pH);have HXb := ahF (λw (h : Sl w B d M) pH => SZ B d M (f-k) w h hm aC aC pH);generalize Dy.ij ⟨s,val L,e⟩=ta at *
  generalize Dy.ij ⟨t,val M,f⟩=tb at *
  generalize qZ ⟨s,val L,e⟩ ⟨t,val M,f⟩=R at *
  generalize val L*2^(e-k).toNat=x at *
  generalize val M*2^(f-k).toNat=y at *
  have HC := ahF (λA B c d w (h : Sl w A c (gV x)) (k : Sl w B d (gV y)) hx hy => Gi A B c d (gV x) (gV y) w h k hx hy);rw[jM,jM]at HC;clear tg q9 da db hl hm;go_enter func199,ntmps199;go_wp2_with fail;go_region_held3 (λw' => w'.cell? ⟨w.heap.size,0,none⟩=some (.bool s)/\w'.cell? ⟨w.heap.size,1,none⟩=some (.slice A L.length c)/\w'.cell? ⟨w.heap.size,2,none⟩=some (.int .i64 e)/\w'.cell? ⟨w.heap.size+1,0,none⟩=some (.bool t)/\w'.cell? ⟨w.heap.size+1,1,none⟩=some (.slice B M.length d)/\w'.cell? ⟨w.heap.size+1,2,none⟩=some (.int .i64 f))
    (first
      |exact⟨kO.c0,kO.c1,kO.c2,kW.c0,kW.c1,kW.c2⟩
      |exact⟨(kO.ext iV).c0,(kO.ext iV).c1,(kO.ext iV).c2,(kW.ext iV).c0,(kW.ext iV).c1,(kW.ext iV).c2⟩
      |exact⟨(kO.ext jc).c0,(kO.ext jc).c1,(kO.ext jc).c2,(kW.ext jc).c0,(kW.ext jc).c1,(kW.ext jc).c2⟩
      |exact⟨(kO.ext (iV.trans jc)).c0,(kO.ext (iV.trans jc)).c1,(kO.ext (iV.trans jc)).c2,(kW.ext (iV.trans jc)).c0,(kW.ext (iV.trans jc)).c1,(kW.ext (iV.trans jc)).c2⟩
      |exact⟨(kO.ext (jc.trans iV)).c0,(kO.ext (jc.trans iV)).c1,(kO.ext (jc.trans iV)).c2,(kW.ext (jc.trans iV)).c0,(kW.ext (jc.trans iV)).c1,(kW.ext (jc.trans iV)).c2⟩
      |exact⟨(kO.ext ((iV.trans jc).trans nO)).c0,(kO.ext ((iV.trans jc).trans nO)).c1,(kO.ext ((iV.trans jc).trans nO)).c2,(kW.ext ((iV.trans jc).trans nO)).c0,(kW.ext ((iV.trans jc).trans nO)).c1,(kW.ext ((iV.trans jc).trans nO)).c2⟩
      |exact⟨(kO.ext ((jc.trans iV).trans nO)).c0,(kO.ext ((jc.trans iV).trans nO)).c1,(kO.ext ((jc.trans iV).trans nO)).c2,(kW.ext ((jc.trans iV).trans nO)).c0,(kW.ext ((jc.trans iV).trans nO)).c1,(kW.ext ((jc.trans iV).trans nO)).c2⟩)
    (first
      | (go_at_call_of 216 (Value.agg #[.bool s,.slice A L.length c,.int .i64 e])
         refine(HTa.out _ ?_).mono ?_
         (first|exact wZ|exact wZ.below jc)
         rintro r wx ⟨rfl,iV⟩)
      | (go_at_call_of 216 (Value.agg #[.bool t,.slice B M.length d,.int .i64 f])
         refine(HTb.out _ ?_).mono ?_
         (first|exact zQ|exact zQ.below iV)
         rintro r wy ⟨rfl,jc⟩))
  first
    | (have oY := iV.trans jc)
    | (have oY := jc.trans iV)
  have cx1 := (kO.ext oY).drew;have cx2 := (kW.ext oY).drew;have jS := (wZ.below oY).drew;have mW := (zQ.below oY).drew;have cx1n := (kO.ext oY)
  have cx2n := (kW.ext oY)
  have HF := ahF ((HE.out.trans oY).trans (iz.drew _));have HFr := ahF (HE.out.trans oY);clear iV jc oY;by_cases h1 : ta<tb
  . have hR := ahF (Hlt.out h1)
    go_wp2;go_ret;exact⟨nd hR.out.symm,HFr.out⟩
  . by_cases h2 : tb<ta
    . have hR := ahF (Hgt.out h2)
      go_wp2;go_ret;exact⟨nd hR.out.symm,HFr.out⟩
    . have ou : (ib (val L) : Int)+e=ib (val M)+f := by rw[<-Hta.out,<-Htb.out];omega
      have hfa := Kp (k := 128) (Hfa.out ou);have hfb := Kp (k := 128) (Hfb.out ou);have HXa2 := ahF (λw h => HXa.out w h aC);have HXb2 := ahF (λw h => HXb.out w h aC);have HC2 := ahF (λA B c d w h k => HC.out A B c d w h k aC aC);have b0 := cx1n.c0;have b1 := cx1n.c1;have b2 := cx1n.c2;have d0 := cx2n.c0;have d1 := cx2n.c1;have d2 := cx2n.c2;clear ou hfa hfb;go_wp2_with fail;go_region_held3 (λw' => w'.cell? ⟨w.heap.size,0,none⟩=some (.bool s)/\w'.cell? ⟨w.heap.size,1,none⟩=some (.slice A L.length c)/\w'.cell? ⟨w.heap.size,2,none⟩=some (.int .i64 e)/\w'.cell? ⟨w.heap.size+1,0,none⟩=some (.bool t)/\w'.cell? ⟨w.heap.size+1,1,none⟩=some (.slice B M.length d)/\w'.cell? ⟨w.heap.size+1,2,none⟩=some (.int .i64 f))
        (first
          |exact⟨cx1.c0,cx1.c1,cx1.c2,cx2.c0,cx2.c1,cx2.c2⟩
          |exact⟨(cx1.ext iV).c0,(cx1.ext iV).c1,(cx1.ext iV).c2,(cx2.ext iV).c0,(cx2.ext iV).c1,(cx2.ext iV).c2⟩
          |exact⟨(cx1.ext jc).c0,(cx1.ext jc).c1,(cx1.ext jc).c2,(cx2.ext jc).c0,(cx2.ext jc).c1,(cx2.ext jc).c2⟩
          |exact⟨(cx1.ext (iV.trans jc)).c0,(cx1.ext (iV.trans jc)).c1,(cx1.ext (iV.trans jc)).c2,(cx2.ext (iV.trans jc)).c0,(cx2.ext (iV.trans jc)).c1,(cx2.ext (iV.trans jc)).c2⟩
          |exact⟨(cx1.ext (jc.trans iV)).c0,(cx1.ext (jc.trans iV)).c1,(cx1.ext (jc.trans iV)).c2,(cx2.ext (jc.trans iV)).c0,(cx2.ext (jc.trans iV)).c1,(cx2.ext (jc.trans iV)).c2⟩
          |exact⟨(cx1.ext ((iV.trans jc).trans nO)).c0,(cx1.ext ((iV.trans jc).trans nO)).c1,(cx1.ext ((iV.trans jc).trans nO)).c2,(cx2.ext ((iV.trans jc).trans nO)).c0,(cx2.ext ((iV.trans jc).trans nO)).c1,(cx2.ext ((iV.trans jc).trans nO)).c2⟩
          |exact⟨(cx1.ext ((jc.trans iV).trans nO)).c0,(cx1.ext ((jc.trans iV).trans nO)).c1,(cx1.ext ((jc.trans iV).trans nO)).c2,(cx2.ext ((jc.trans iV).trans nO)).c0,(cx2.ext ((jc.trans iV).trans nO)).c1,(cx2.ext ((jc.trans iV).trans nO)).c2⟩)
        (first
          | (go_at_call_of 266 (Value.slice A L.length c)
             refine(HXa2.out _ ?_).mono ?_
             (first|exact jS|exact jS.below jc)
             rintro r wx ⟨Ax,cx,rfl,pL,iV⟩)
          | (go_at_call_of 266 (Value.slice B M.length d)
             refine(HXb2.out _ ?_).mono ?_
             (first|exact mW|exact mW.below iV)
             rintro r wy ⟨Ay,cy,rfl,P0,jc⟩)
          | (go_at_call 220
             refine(HC2.out _ _ _ _ _ ?_ ?_).mono ?_
             (first|exact pL.below jc|exact pL)
             (first|exact P0|exact P0.below iV)
             rintro r wz ⟨rfl,nO⟩))
      all_goals
        go_wp2;go_ret
        (first|exact⟨nd HM.out.symm,HF.out.trans ((iV.trans jc).trans nO)⟩|exact⟨nd HM.out.symm,HF.out.trans ((jc.trans iV).trans nO)⟩)
def S7{d:Dy}:d.iJ=0↔d.m=0:=by
 rcases B8 d with⟨h1,h2⟩|⟨h1,_,h2⟩|⟨h1,_,h2⟩<;>simp[h1,h2]
def Xm(s : Bool)(A : Option Addr)(c : Nat)(L : List Nat)(e : Int)(t : Bool)(B : Option Addr)(d : Nat)(M : List Nat)(f : Int)(w : World)
    (hs : Sl w A c L) (hr : Sl w B d M) (da : nB s L e) (db : nB t M f):
    Calls prog 122 #[.agg #[.bool s,.slice A L.length c,.int .i64 e],.agg #[.bool t,.slice B M.length d,.int .i64 f]] w λr w' => r = .returned (.int .i64 (jj ⟨s,val L,e⟩ ⟨t,val M,f⟩))/\iz w w' := by
  obtain⟨lh,kx⟩ := da.exp;obtain⟨hf1,hf2⟩ := db.exp;have HVa := ahF (λw (h : Sl w A c L) => zw s A c L e w true h aC aC (by simp[da]));have HVb := ahF (λw (h : Sl w B d M) => zw t B d M f w true h aC aC (by simp[db]));have HSa := ahF (λw (h : Sl w A c L) => IK s A c L e w h da);have HSb := ahF (λw (h : Sl w B d M) => IK t B d M f w h db);have HK := ahF (λh1 h2 w (h : Sl w A c L) (k : Sl w B d M) => Xo s A c L e t B d M f w h k da db h1 h2);have HP := ahF (AY ⟨s,val L,e⟩ ⟨t,val M,f⟩);have z1 : Hid (Dy.iJ ⟨s,val L,e⟩=0↔val L=0) := S7;have z2 : Hid (Dy.iJ ⟨t,val M,f⟩=0↔val M=0) := S7;have FW : Dy.iJ ⟨s,val L,e⟩=0\/Dy.iJ ⟨s,val L,e⟩ = -1\/Dy.iJ ⟨s,val L,e⟩=1 := by
    rcases B8 ⟨s,val L,e⟩with⟨_,h⟩|⟨_,_,h⟩|⟨_,_,h⟩<;>simp[h]
  have nG : qZ ⟨s,val L,e⟩ ⟨t,val M,f⟩ = -1\/qZ ⟨s,val L,e⟩ ⟨t,val M,f⟩=0\/qZ ⟨s,val L,e⟩ ⟨t,val M,f⟩=1 := by
    unfold qZ jZ;split;simp;split<;>simp
  generalize Dy.iJ ⟨s,val L,e⟩=sa at *
  generalize Dy.iJ ⟨t,val M,f⟩=sb at *
  generalize qZ ⟨s,val L,e⟩ ⟨t,val M,f⟩=cm at *
  generalize jj ⟨s,val L,e⟩ ⟨t,val M,f⟩=R at *
  have zY : IntKind.i64.wrap (sa*cm)=sa*cm := i64_in _ (by rcases FW with rfl|rfl|rfl<;>omega) (by rcases FW with rfl|rfl|rfl<;>omega);have HH := ahF FW;clear FW nG da db;go_enter func122,ntmps122;go_wp2_with fail;refine(HVa.out _ ((hs.alloc _).alloc _)).mono ?_;rintro r w1 ⟨rfl,jW⟩;have kO := ((ji.new w s A L.length c e).alloc (.cells #[.bool t,.slice B M.length d,.int .i64 f] 39)).ext jW;have kW := (ji.rS (W := w.alloc (.cells #[.bool s,.slice A L.length c,.int .i64 e] 39)) (g := w.heap.size+1) aH t B M.length d f).ext jW;have b0 := kO.c0;have b1 := kO.c1;have b2 := kO.c2;have d0 := kW.c0;have d1 := kW.c1;have d2 := kW.c2;have hE := (((iz.alloc w (.cells #[.bool s,.slice A L.length c,.int .i64 e] 39)).trans (iz.alloc _ (.cells #[.bool t,.slice B M.length d,.int .i64 f] 39))).trans jW)
  go_wp2_with fail;refine(HVb.out _ (hr.below hE)).mono ?_;rintro r w2 ⟨rfl,mh⟩;have Fz := hE.trans mh;have kO := (kO.ext mh).drew;have kW := (kW.ext mh).drew;have wZ := (hs.below Fz).drew;have zQ := (hr.below Fz).drew;have HE := ahF (Fz.trans (iz.drew _));clear hE Fz jW mh b0 b1 b2 d0 d1 d2;go_wp2_with fail;go_region_held3 (λw' => w'.cell? ⟨w.heap.size,0,none⟩=some (.bool s)/\w'.cell? ⟨w.heap.size,1,none⟩=some (.slice A L.length c)/\w'.cell? ⟨w.heap.size,2,none⟩=some (.int .i64 e)/\w'.cell? ⟨w.heap.size+1,0,none⟩=some (.bool t)/\w'.cell? ⟨w.heap.size+1,1,none⟩=some (.slice B M.length d)/\w'.cell? ⟨w.heap.size+1,2,none⟩=some (.int .i64 f))
    (first
      |exact⟨kO.c0,kO.c1,kO.c2,kW.c0,kW.c1,kW.c2⟩
      |exact⟨(kO.ext iV).c0,(kO.ext iV).c1,(kO.ext iV).c2,(kW.ext iV).c0,(kW.ext iV).c1,(kW.ext iV).c2⟩
      |exact⟨(kO.ext jc).c0,(kO.ext jc).c1,(kO.ext jc).c2,(kW.ext jc).c0,(kW.ext jc).c1,(kW.ext jc).c2⟩
      |exact⟨(kO.ext (iV.trans jc)).c0,(kO.ext (iV.trans jc)).c1,(kO.ext (iV.trans jc)).c2,(kW.ext (iV.trans jc)).c0,(kW.ext (iV.trans jc)).c1,(kW.ext (iV.trans jc)).c2⟩
      |exact⟨(kO.ext (jc.trans iV)).c0,(kO.ext (jc.trans iV)).c1,(kO.ext (jc.trans iV)).c2,(kW.ext (jc.trans iV)).c0,(kW.ext (jc.trans iV)).c1,(kW.ext (jc.trans iV)).c2⟩)
    (first
      | (go_at_call_of 46 (Value.agg #[.bool s,.slice A L.length c,.int .i64 e])
         refine(HSa.out _ ?_).mono ?_
         (first|exact wZ|exact wZ.below jc)
         rintro r wx ⟨rfl,iV⟩)
      | (go_at_call_of 46 (Value.agg #[.bool t,.slice B M.length d,.int .i64 f])
         refine(HSb.out _ ?_).mono ?_
         (first|exact zQ|exact zQ.below iV)
         rintro r wy ⟨rfl,jc⟩))
  first
    | (have oY := iV.trans jc)
    | (have oY := jc.trans iV)
  have cx1 := (kO.ext oY)
  have cx2 := (kW.ext oY)
  have jS := (wZ.below oY)
  have mW := (zQ.below oY)
  have HFr := ahF (HE.out.trans oY);clear iV jc oY;by_cases h1 : sa<sb
  . have hR := ahF (show R = -1 by rw[HP.out,aZ h1])
    go_wp2;go_ret;exact⟨nd hR.out.symm,HFr.out⟩
  . by_cases h2 : sb<sa
    . have hR := ahF (show R=1 by rw[HP.out,aY h1,aZ h2])
      go_wp2;go_ret;exact⟨nd hR.out.symm,HFr.out⟩
    . by_cases h3 : sa=0
      . have hR := ahF (show R=0 by rw[HP.out,aY h1,aY h2,aZ h3])
        have hz : (sa==0)=true := by simp[h3]
        go_wp2;go_ret;exact⟨nd hR.out.symm,HFr.out⟩
      . have hR := ahF (show R=sa*cm by rw[HP.out,aY h1,aY h2,aY h3])
        have hz : (sa==0)=false := aT h3;have HK2 := ahF (HK.out (λh => h3 (z1.out.2 h)) (λh => h3 (by have := z2.out.2 h;omega)));have b0 := cx1.c0;have b1 := cx1.c1;have b2 := cx1.c2;have d0 := cx2.c0;have d1 := cx2.c1;have d2 := cx2.c2;go_wp2_with fail;refine(HK2.out _ jS mW).mono ?_;rintro r w3 ⟨rfl,pT⟩;go_wp2;go_ret;exact⟨nd hR.out.symm,HFr.out.trans pT⟩
def M0{L:List Nat}(h:iD L)(hl:L.length<=256)(s:Bool)(e:Int):(gV (canon s (val L) e).m).length<=100000000:=by
 unfold canon;split
 .simp [nI]
 .refine bj (tG (k:=256) (cr (bU _ _) ?_)) aE ;exact bM (mQ h) (bH aE hl)
def MZ{L:List Nat}(h:iD L)(hl:L.length<=256)(s:Bool)(e:Int)(h1:-9000000<=e)(h2:e<=9000000):-10000000<=(canon s (val L) e).e/\(canon s (val L) e).e<=10000000:=by
 unfold canon;split
 .simp
 .rename_i h0;have:=Cw h h0;simp only;omega
def adT(s:Bool)(A:Option Addr)(c:Nat)(L:List Nat)(e k:Int)(w:World)(hs:Sl w A c L)(hd:nB s L e)(mK:-32768<=k)(vJ:k<=32768)(hr:mN (canon s (val L) (e+k))):
 Calls prog 111 #[.agg #[.bool s,.slice A L.length c,.int .i64 e],.int .i64 k] w (wB w (canon s (val L) (e+k)) 0):=by
 obtain⟨lh,kx⟩:=hd.exp;have hlen:=hd.len;have HV:=ahF (λw (h:Sl w A c L)=>GH s A c L e w true h aC aC (by simp[hd]));have HX:=ahF (λw=>adH k w true (by simp[mK,vJ]));have hw:IntKind.i64.wrap (e+k)=e+k:=i64_in _ aC aC;have HC:=ahF (λw (h:Sl w A c L)=>GF s A c L (e+k) w h aC aC aC);have jW:=M0 hs.ok hlen s (e+k);obtain⟨mh,pT⟩:=MZ hs.ok hlen s (e+k) aC aC;have hv:(canon s (val L) (e+k)).gX:=⟨sf _ _ _,hr⟩
 have HK:=ahF (λA c w (h:Sl w A c (gV (canon s (val L) (e+k)).m))=>adF _ A c w h jW mh pT hv);generalize canon s (val L) (e+k)=D at *
 clear hd hr hv jW mh pT;go_enter func111,ntmps111;go_wp2_with fail;refine(HV.out _ ((hs.alloc _).alloc _)).mono ?_;rintro r w1 ⟨rfl,jW⟩;have kO:=((ji.new w s A L.length c e).alloc (.cells #[.bool false,.slice none 0 0,.int .i64 0] 39)).ext jW;have kW:=(ji.rS (W:=w.alloc (.cells #[.bool s,.slice A L.length c,.int .i64 e] 39)) (g:=w.heap.size+1) aH false none 0 0 0).ext jW;have b0:=kO.c0;have b1:=kO.c1;have b2:=kO.c2;have hE:=(((iz.alloc w (.cells #[.bool s,.slice A L.length c,.int .i64 e] 39)).trans (iz.alloc _ (.cells #[.bool false,.slice none 0 0,.int .i64 0] 39))).trans jW)
 have wZ:=hs.below hE;have HE:=ahF hE;clear hE jW;go_wp2_with fail;refine(HX.out _).mono ?_;rintro r w2 ⟨rfl,rfl⟩;go_wp2_with fail;refine(HC.out _ wZ).mono ?_;rintro r w2 ⟨A1,c1,rfl,sF,mh⟩;go_wp2_with fail;refine(HK.out _ _ _ sF).mono ?_;rintro r w3 ⟨A2,c2,rfl,jS,pT⟩;have bz:=kW.ext (mh.trans pT);have z0:=bz.c0;have z1:=bz.c1;have z2:=bz.c2;have f0:=bz.fr 0;have f1:=bz.fr 1;have f2:=bz.fr 2;go_wp2;exact A6 rfl rfl rfl rfl (bz.set _ _ _ _ _) rfl (bz.sP jS _ _ _ _ _) (ji.rX (HE.out.trans (mh.trans pT)) aC _ _ _ _ _)
abbrev DV(d:Dy)(A:Option Addr)(c:Nat):Value:=.agg #[.bool d.neg,.slice A (gV d.m).length c,.int .i64 d.e]
def abp{n k:Nat}(h:ib n<=32*k):(gV n).length<=k:=by
 refine tG (bM (qH _) ?_);rw[qV];exact bH aE h
def Fp.Dy.gX.um{d:Dy}(h:d.gX):nB d.neg (gV d.m) d.e:=by
 refine⟨vd _,abp ?_,by rw[jM];exact h⟩;rcases h.range with h0|⟨h1,_⟩
 .rw [h0];exact bO _
 .omega
def Fp.Dy.gX.len{d:Dy}(h:d.gX):(gV d.m).length<=256:=h.um.2.1
def Fp.Dy.gX.exp{d:Dy}(h:d.gX):-16384<=d.e/\d.e<=16384:=h.um.exp
def ji.zC{w:World}{g n c:Nat}{s:Bool}{A:Option Addr}{e:Int}(h:ji w g s A n c e){g':Nat}(kG:g'≠g)(i:Nat)(v:Value):ji (w.setCell ⟨g',i,none⟩ v) g s A n c e:=by
 unfold ji at h ⊢;simp only[World.setCell,cO];rw[aY kG];exact h
def ji.I5{w:World}{g n c:Nat}{s:Bool}{A:Option Addr}{e:Int}(h:ji w g s A n c e){g':Nat}(kG:g'≠g)(v0 v1 v2:Value):
 ji (((w.setCell ⟨g',0,none⟩ v0).setCell ⟨g',1,none⟩ v1).setCell ⟨g',2,none⟩ v2) g s A n c e:=((h.zC kG 0 v0).zC kG 1 v1).zC kG 2 v2
structure xD(d:Dy):Prop where
 len:(gV d.m).length<=256
 lo:-17000<=d.e
 hi:d.e<=17000
def Fp.Dy.gX.Gj{d:Dy}(h:d.gX):xD d:=⟨h.len,by have:=h.exp;omega,by have:=h.exp;omega⟩
def Xn(a b:Dy)(A B:Option Addr)(c d:Nat)(w:World)(h:Sl w A c (gV a.m))(k:Sl w B d (gV b.m))(ha:a.gX)(hb:b.gX):
 Calls prog 122 #[DV a A c,DV b B d] w λe w'=>e = .returned (.int .i64 (jj a b))/\iz w w':=by
 have:=Xm a.neg A c (gV a.m) a.e b.neg B d (gV b.m) b.e w h k ha.um hb.um;rw[jM,jM]at this;exact this
def Xk(a:Dy)(A:Option Addr)(c:Nat)(w:World)(h:Sl w A c (gV a.m))(ha:a.gX):
 Calls prog 306 #[DV a A c] w λe w'=>e = .returned (.int .i64 (ib a.m))/\iz w w':=by
 have:=Xj a.neg A c (gV a.m) a.e w h ha.um;rw[jM]at this;exact this
def Xs(a:Dy)(A:Option Addr)(c:Nat)(w:World)(h:Sl w A c (gV a.m))(ha:a.gX):
 Calls prog 46 #[DV a A c] w λe w'=>e = .returned (.int .i64 a.iJ)/\iz w w':=by
 have:=IK a.neg A c (gV a.m) a.e w h ha.um;rw[jM]at this;exact this
def NU(a:Dy)(A:Option Addr)(c:Nat)(w:World)(h:Sl w A c (gV a.m))(ha:a.gX):
 Calls prog 92 #[DV a A c] w λe w'=>e = .returned (.bool true)/\iz w w':=
 zw a.neg A c (gV a.m) a.e w true h (by have:=ha.exp;omega) (by have:=ha.exp;omega) (by simp[ha.um])
open Pu
def Mf:∀ w w',Tb w->Below w.heap.size w w'->Tb w':=λ_ _ h hb=>h.below hb
def mixed:prog.follows .mixedOrders=true:= aF 
abbrev gU(f:FuncId)(args:List E)(jL:E):Prop:=PC prog Tb f args jL
def gW(L:List Nat):E:=.sl false L.length 1 λi _=>.v (.int .u32 (L.getD i 0:Int))
def gZ(d:Dy):E:=.agg [.v (.bool d.neg),gW (gV d.m),.v (.int .i64 d.e)]
abbrev iP(z:Int):E:=.v (.int .i64 z)
abbrev bP(b:Bool):E:=.v (.bool b)
abbrev ar:List E:=[bP false,.v (.slice none 0 0),iP 0]
abbrev au:List E:=[bP false,.v (.slice none 0 0),iP 0,bP false,.v (.slice none 0 0),iP 0,bP false]
def uZ{bs br:Nat->Prop}{w:World}{L:List Nat}{v:Value}(hk:iD L)(h:iB bs br w (gW L) v):∃ A c,v = .slice A L.length c/\Sl w A c L:=by
 cases h with
 |sl _ _ _ _ A c f hc hm h0 hl hr cell kk=>
  refine⟨A,c,rfl,hc,hm,hk,h0,λi x hx=>?_⟩;obtain⟨hi,yo⟩:=b9.1 hx;obtain⟨b,o,e1,_,iA,kF⟩:=cell i 0 hi aE;have hv:=iB.jX (kk i 0 hi aE);refine⟨b,o,e1,iA,?_⟩;rw[ch,bL,hv]at kF;rw[kF];simp[bc,hx]
def yV{B br:Nat->Prop}{w w':World}{A:Option Addr}{c:Nat}{L:List Nat}(hB:∀ b,B b->b<w.heap.size/\nC w b)(hb:iz w w')(h:Sl w' A c L):iB B br w' (gW L) (.slice A L.length c):=by
 refine .sl false L.length 1 _ A c (λi _=>.int .u32 (L.getD i 0:Int)) h.cap h.pq h.vY (λi j _ _=>⟨rfl,λh=>by cases h⟩) (λi j _ _=>rfl) (λi j hi hj=>?_) (λi j _ _=>.v _)
 .obtain rfl:j=0:= aC ;obtain⟨b,o,e1,iA,kF⟩:=h.kD hi;have e2:L.getD i 0=L[i]:=by simp[bc,hi]
  refine⟨b,o,e1,λxZ=>?_,iA,by rw[ch,bL,kF,e2]⟩;obtain⟨h1,h2⟩:=hB b xZ;exact(h2.BS (hb.block b h1)) _ _ kF
def Ff{bs br:Nat->Prop}{w:World}{d:Dy}{v:Value}(h:iB bs br w (gZ d) v):∃ A c,v=DV d A c/\Sl w A c (gV d.m):=by
 obtain⟨vs,rfl,q⟩:=iB.AR (show iB bs br w (.agg _) v from h);obtain⟨v1,vs,rfl,h1,q⟩:=q.lp;obtain⟨v2,vs,rfl,h2,q⟩:=q.lp;obtain⟨v3,vs,rfl,h3,q⟩:=q.lp;obtain rfl:=q.o0;obtain rfl:=iB.jX h1;obtain rfl:=iB.jX h3;obtain⟨A,c,rfl,hs⟩:=uZ (kZ _) h2;exact⟨A,c,rfl,hs⟩
def NS{B br:Nat->Prop}{w w':World}{A:Option Addr}{c:Nat}{d:Dy}(hB:∀ b,B b->b<w.heap.size/\nC w b)(hb:iz w w')(h:Sl w' A c (gV d.m)):iB B br w' (gZ d) (DV d A c):=
 jJ.agg (.cons (.v _) (.cons (yV hB hb h) (.cons (.v _) (.nil _ _ _))))
section
variable {f:FuncId} {a b:Dy}
def wb(hc:∀ (vs:Array Value) (w:World),(callFunc f vs).run prog w = .ok (.enter f vs) w){jL:E}{R:World->Ending->World->Prop}
 (H:∀ A c w,Sl w A c (gV a.m)->Tb w->Calls prog f #[DV a A c] w (R w)) (hR:∀ (B:Nat->Prop) w e w',(∀ b,B b->b<w.heap.size/\nC w b)->R w e w'->∃ v,e = .returned v/\Below w.heap.size w w'/\iB B (λ_=>True) w' jL v):gU f [gZ a] jL:=by
 refine⟨hc,λw B vs hK hB hr=>?_⟩;obtain⟨v1,vs,rfl,h1,hr⟩:=hr.lp;obtain rfl:=hr.o0;obtain⟨A,c,rfl,s1⟩:=Ff h1;exact(H A c w s1 hK).mono λe w' h=>hR B w e w' hB h
def pc2(hc:∀ (vs:Array Value) (w:World),(callFunc f vs).run prog w = .ok (.enter f vs) w){jL:E}{R:World->Ending->World->Prop}
 (H:∀ A c A' c' w,Sl w A c (gV a.m)->Sl w A' c' (gV b.m)->Tb w->Calls prog f #[DV a A c,DV b A' c'] w (R w)) (hR:∀ (B:Nat->Prop) w e w',(∀ b,B b->b<w.heap.size/\nC w b)->R w e w'->∃ v,e = .returned v/\Below w.heap.size w w'/\iB B (λ_=>True) w' jL v):gU f [gZ a,gZ b] jL:=by
 refine⟨hc,λw B vs hK hB hr=>?_⟩;obtain⟨v1,vs,rfl,h1,hr⟩:=hr.lp;obtain⟨v2,vs,rfl,h2,hr⟩:=hr.lp;obtain rfl:=hr.o0;obtain⟨A,c,rfl,s1⟩:=Ff h1;obtain⟨A',c',rfl,s2⟩:=Ff h2;exact(H A c A' c' w s1 s2 hK).mono λe w' h=>hR B w e w' hB h
end
def rv{x:Value}:∀ (B:Nat->Prop) (w:World) (e:Ending) (w':World),(∀ b,B b->b<w.heap.size/\nC w b)->(e = .returned x/\iz w w')->∃ v,e = .returned v/\Below w.heap.size w w'/\iB B (λ_=>True) w' (.v x) v:=
 λ_ _ _ _ _ h=>⟨x,h.1,h.2,.v x⟩
def rd{d:Dy}:∀ (B:Nat->Prop) (w:World) (e:Ending) (w':World),(∀ b,B b->b<w.heap.size/\nC w b)->vj w d e w'->∃ v,e = .returned v/\Below w.heap.size w w'/\iB B (λ_=>True) w' (gZ d) v:=
 λ_ _ _ _ hB ⟨_,_,h1,h2,h3⟩=>⟨_,h1,h3,NS hB h3 h2⟩
def La{d:Dy}{n:Int}:∀ (B:Nat->Prop) (w:World) (e:Ending) (w':World),(∀ b,B b->b<w.heap.size/\nC w b)->wB w d n e w'->∃ v,e = .returned v/\Below w.heap.size w w'/\iB B (λ_=>True) w' (.ik [gZ d,iP n]) v:=
 λ_ _ _ _ hB ⟨_,_,h1,h2,h3⟩=>⟨_,h1,h3,jJ.ik (.cons (NS hB h3 h2) (.cons (.v _) (.nil _ _ _)))⟩
def vf:E.le (.agg ar) (gZ jt):=by
 have:gZ jt = .agg [bP false,.sl false 0 1 λi _=>.v (.int .u32 (((gV 0).getD i 0:Nat):Int)),iP 0]:=by
  show E.agg [bP false,gW (gV 0),iP 0]=_;unfold gW;rw[nI];rfl
 rw[this];exact .agg (.cons (.refl _) (.cons (.nil _ _ _) (.cons (.refl _) .nil)))
def nD(a b:Dy)(ha:a.gX)(hb:b.gX):gU 122 [gZ a,gZ b] (iP (jj a b)):=pc2 call122 (λA c A' c' w h k _=>Xn a b A A' c c' w h k ha hb) rv
def nE(a:Dy)(ha:a.gX):gU 46 [gZ a] (iP a.iJ):=wb call46 (λA c w h _=>Xs a A c w h ha) rv
def uo(a:Dy)(ha:a.gX):gU 92 [gZ a] (bP true):=wb call92 (λA c w h _=>NU a A c w h ha) rv
def Fc(a:Dy)(ha:a.gX):gU 306 [gZ a] (iP (ib a.m)):=wb call306 (λA c w h _=>Xk a A c w h ha) rv
def TT:List TI:=[
 ⟨3,.int .i64,⟨.int .i64, "int", 1,8,false,8,8,some (.int .i64 0),true,#[]⟩⟩,
 ⟨4,.bool,⟨.bool, "bool", 1,1,false,1,1,some (.bool false),true,#[]⟩⟩,
 ⟨9,.string,⟨.string, "string", 1,16,true,8,8,some (.string ⟨#[]⟩),true,#[]⟩⟩,
 ⟨22,.slice 74,⟨.slice 74, "[]api.Op", 1,24,true,8,8,some (.slice none 0 0),false,#[]⟩⟩,
 ⟨23,.slice 3,⟨.slice 3, "[]int", 1,24,true,8,8,some (.slice none 0 0),false,#[]⟩⟩,
 ⟨25,.struct #[⟨"Ins", 3,0,false, "", "", 0⟩,⟨"Ops", 22,1,false, "", "", 8⟩,⟨"Outs", 23,2,false, "", "", 32⟩],⟨.named "flowpipe/api.Tape" 24, "api.Tape", 3,56,true,8,8,some (.agg #[.int .i64 0,.slice none 0 0,.slice none 0 0]),false,#[]⟩⟩,
 ⟨26,.slice 46,⟨.slice 46, "[]api.Interval", 1,24,true,8,8,some (.slice none 0 0),false,#[]⟩⟩,
 ⟨28,.struct #[⟨"Tape", 25,0,false, "", "", 0⟩,⟨"States", 3,3,false, "", "", 56⟩,⟨"Params", 26,4,false, "", "", 64⟩],⟨.named "flowpipe/api.System" 27, "api.System", 5,88,true,8,8,some (.agg #[.int .i64 0,.slice none 0 0,.slice none 0 0,.int .i64 0,.slice none 0 0]),false,#[]⟩⟩,
 ⟨31,.func #[26] #[4] false,⟨.func #[26] #[4] false, "func([]api.Interval) bool", 1,8,true,8,8,some (.nilFunc),false,#[]⟩⟩,
 ⟨34,.int .i8,⟨.int .i8, "int8", 1,1,false,1,1,some (.int .i8 0),true,#[]⟩⟩,
 ⟨37,.slice 150,⟨.slice 150, "[]uint32", 1,24,true,8,8,some (.slice none 0 0),false,#[]⟩⟩,
 ⟨39,.struct #[⟨"Neg", 4,0,false, "", "", 0⟩,⟨"M", 37,1,false, "", "", 8⟩,⟨"E", 3,2,false, "", "", 32⟩],⟨.named "flowpipe/api.Dyadic" 38, "api.Dyadic", 3,40,true,8,8,some (.agg #[.bool false,.slice none 0 0,.int .i64 0]),false,#[]⟩⟩,
 ⟨43,.func #[26,26] #[4] false,⟨.func #[26,26] #[4] false, "func([]api.Interval, []api.Interval) bool", 1,8,true,8,8,some (.nilFunc),false,#[]⟩⟩,
 ⟨46,.struct #[⟨"Lo", 39,0,false, "", "", 0⟩,⟨"Hi", 39,3,false, "", "", 40⟩,⟨"All", 4,6,false, "", "", 80⟩],⟨.named "flowpipe/api.Interval" 45, "api.Interval", 7,88,true,8,8,some (.agg #[.bool false,.slice none 0 0,.int .i64 0,.bool false,.slice none 0 0,.int .i64 0,.bool false]),false,#[]⟩⟩,
 ⟨48,.slice 26,⟨.slice 26, "[][]api.Interval", 1,24,true,8,8,some (.slice none 0 0),false,#[]⟩⟩,
 ⟨49,.int .i64,⟨.named "flowpipe/api.Errno" 3, "api.Errno", 1,8,false,8,8,some (.int .i64 0),true,#[]⟩⟩,
 ⟨59,.func #[46,46] #[4] false,⟨.func #[46,46] #[4] false, "func(api.Interval, api.Interval) bool", 1,8,true,8,8,some (.nilFunc),false,#[]⟩⟩,
 ⟨64,.func #[46] #[4] false,⟨.func #[46] #[4] false, "func(api.Interval) bool", 1,8,true,8,8,some (.nilFunc),false,#[]⟩⟩,
 ⟨72,.struct #[⟨"N", 3,0,false, "", "", 0⟩,⟨"D", 3,1,false, "", "", 8⟩],⟨.named "flowpipe/api.Ratio" 71, "api.Ratio", 2,16,false,8,8,some (.agg #[.int .i64 0,.int .i64 0]),true,#[]⟩⟩,
 ⟨74,.struct #[⟨"Kind", 3,0,false, "", "", 0⟩,⟨"A", 3,1,false, "", "", 8⟩,⟨"B", 3,2,false, "", "", 16⟩,⟨"N", 3,3,false, "", "", 24⟩,⟨"C", 72,4,false, "", "", 32⟩],⟨.named "flowpipe/api.Op" 73, "api.Op", 6,48,false,8,8,some (.agg #[.int .i64 0,.int .i64 0,.int .i64 0,.int .i64 0,.int .i64 0,.int .i64 0]),true,#[]⟩⟩,
 ⟨78,.slice 80,⟨.slice 80, "[]api.Expr", 1,24,true,8,8,some (.slice none 0 0),false,#[]⟩⟩,
 ⟨80,.struct #[⟨"Kind", 3,0,false, "", "", 0⟩,⟨"Num", 72,1,false, "", "", 8⟩,⟨"Name", 9,3,false, "", "", 24⟩,⟨"N", 3,4,false, "", "", 40⟩,⟨"L", 78,5,false, "", "", 48⟩],⟨.named "flowpipe/api.Expr" 79, "api.Expr", 6,72,true,8,8,some (.agg #[.int .i64 0,.int .i64 0,.int .i64 0,.string ⟨#[]⟩,.int .i64 0,.slice none 0 0]),false,#[]⟩⟩,
 ⟨85,.slice 9,⟨.slice 9, "[]string", 1,24,true,8,8,some (.slice none 0 0),false,#[]⟩⟩,
 ⟨96,.func #[46,46,3] #[46] false,⟨.func #[46,46,3] #[46] false, "func(api.Interval, api.Interval, int) api.Interval", 1,8,true,8,8,some (.nilFunc),false,#[]⟩⟩,
 ⟨104,.func #[3] #[4] false,⟨.func #[3] #[4] false, "func(int) bool", 1,8,true,8,8,some (.nilFunc),false,#[]⟩⟩,
 ⟨131,.func #[3] #[46] false,⟨.func #[3] #[46] false, "func(int) api.Interval", 1,8,true,8,8,some (.nilFunc),false,#[]⟩⟩,
 ⟨150,.int .u32,⟨.int .u32, "uint32", 1,4,false,4,4,some (.int .u32 0),true,#[]⟩⟩,
 ⟨151,.int .u64,⟨.int .u64, "uint64", 1,8,false,8,8,some (.int .u64 0),true,#[]⟩⟩,
 ⟨160,.func #[39,3] #[39,49] false,⟨.func #[39,3] #[39,49] false, "func(api.Dyadic, int) (api.Dyadic, api.Errno)", 1,8,true,8,8,some (.nilFunc),false,#[]⟩⟩,
 ⟨166,.int .u64,⟨.int .u64, "uint", 1,8,false,8,8,some (.int .u64 0),true,#[]⟩⟩,
 ⟨168,.slice 170,⟨.slice 170, "[][2]api.Dyadic", 1,24,true,8,8,some (.slice none 0 0),false,#[]⟩⟩,
 ⟨170,.array 2 39,⟨.array 2 39, "[2]api.Dyadic", 6,80,true,8,8,some (.agg #[.bool false,.slice none 0 0,.int .i64 0,.bool false,.slice none 0 0,.int .i64 0]),false,#[]⟩⟩,
 ⟨173,.func #[3,3,46] #[46] false,⟨.func #[3,3,46] #[46] false, "func(int, int, api.Interval) api.Interval", 1,8,true,8,8,some (.nilFunc),false,#[]⟩⟩,
 ⟨200,.func #[39,39,3] #[39,49] false,⟨.named "flowpipe/interval.rounded" 142, "interval.rounded", 1,8,true,8,8,some (.nilFunc),false,#[]⟩⟩,
 ⟨201,.array 4 170,⟨.array 4 170, "[4][2]api.Dyadic", 24,320,true,8,8,some (.agg #[.bool false,.slice none 0 0,.int .i64 0,.bool false,.slice none 0 0,.int .i64 0,.bool false,.slice none 0 0,.int .i64 0,.bool false,.slice none 0 0,.int .i64 0,.bool false,.slice none 0 0,.int .i64 0,.bool false,.slice none 0 0,.int .i64 0,.bool false,.slice none 0 0,.int .i64 0,.bool false,.slice none 0 0,.int .i64 0]),false,#[]⟩⟩,
 ⟨210,.struct #[⟨"m", 37,0,false, "", "flowpipe/round", 0⟩,⟨"e", 3,1,false, "", "flowpipe/round", 24⟩,⟨"more", 4,2,false, "", "flowpipe/round", 32⟩],⟨.named "flowpipe/round.exact" 209, "round.exact", 3,40,true,8,8,some (.agg #[.slice none 0 0,.int .i64 0,.bool false]),false,#[]⟩⟩,
 ⟨216,.map 3 220,⟨.map 3 220, "map[int]func(gradient.node) api.Interval", 1,8,true,8,8,some (.map none),false,#[]⟩⟩,
 ⟨219,.struct #[⟨"o", 74,0,false, "", "flowpipe/gradient", 0⟩,⟨"v", 46,6,false, "", "flowpipe/gradient", 48⟩,⟨"a", 46,13,false, "", "flowpipe/gradient", 136⟩,⟨"b", 46,20,false, "", "flowpipe/gradient", 224⟩,⟨"da", 46,27,false, "", "flowpipe/gradient", 312⟩,⟨"db", 46,34,false, "", "flowpipe/gradient", 400⟩,⟨"p", 3,41,false, "", "flowpipe/gradient", 488⟩],⟨.named "flowpipe/gradient.node" 218, "gradient.node", 42,496,true,8,8,some (.agg #[.int .i64 0,.int .i64 0,.int .i64 0,.int .i64 0,.int .i64 0,.int .i64 0,.bool false,.slice none 0 0,.int .i64 0,.bool false,.slice none 0 0,.int .i64 0,.bool false,.bool false,.slice none 0 0,.int .i64 0,.bool false,.slice none 0 0,.int .i64 0,.bool false,.bool false,.slice none 0 0,.int .i64 0,.bool false,.slice none 0 0,.int .i64 0,.bool false,.bool false,.slice none 0 0,.int .i64 0,.bool false,.slice none 0 0,.int .i64 0,.bool false,.bool false,.slice none 0 0,.int .i64 0,.bool false,.slice none 0 0,.int .i64 0,.bool false,.int .i64 0]),false,#[]⟩⟩,
 ⟨220,.func #[219] #[46] false,⟨.func #[219] #[46] false, "func(gradient.node) api.Interval", 1,8,true,8,8,some (.nilFunc),false,#[]⟩⟩,
 ⟨227,.slice 37,⟨.slice 37, "[][]uint32", 1,24,true,8,8,some (.slice none 0 0),false,#[]⟩⟩,
 ⟨229,.func #[37] #[4] false,⟨.func #[37] #[4] false, "func([]uint32) bool", 1,8,true,8,8,some (.nilFunc),false,#[]⟩⟩,
 ⟨233,.slice 39,⟨.slice 39, "[]api.Dyadic", 1,24,true,8,8,some (.slice none 0 0),false,#[]⟩⟩,
 ⟨257,.struct #[⟨"p", 3,0,false, "", "flowpipe/exponent", 0⟩],⟨.named "flowpipe/exponent.work" 256, "exponent.work", 1,8,false,8,8,some (.agg #[.int .i64 0]),true,#[⟨"flowpipe/exponent.add", 198,#[],some (389,false)⟩,⟨"flowpipe/exponent.div", 198,#[],some (388,false)⟩,⟨"flowpipe/exponent.exp", 138,#[],some (401,false)⟩,⟨"flowpipe/exponent.halved", 224,#[],some (387,false)⟩,⟨"flowpipe/exponent.log", 138,#[],some (390,false)⟩,⟨"flowpipe/exponent.mul", 198,#[],some (391,false)⟩,⟨"flowpipe/exponent.small", 64,#[],some (403,false)⟩]⟩⟩,
 ⟨264,.struct #[⟨"neg", 4,0,false, "", "flowpipe/circle", 0⟩,⟨"m", 37,1,false, "", "flowpipe/circle", 8⟩],⟨.named "flowpipe/circle.fix" 263, "circle.fix", 2,32,true,8,8,some (.agg #[.bool false,.slice none 0 0]),false,#[⟨"flowpipe/circle.add", 275,#[],some (416,false)⟩,⟨"flowpipe/circle.by", 271,#[],some (419,false)⟩,⟨"flowpipe/circle.minus", 269,#[],some (407,false)⟩,⟨"flowpipe/circle.times", 272,#[],some (413,false)⟩,⟨"flowpipe/circle.zero", 29,#[],some (417,false)⟩]⟩⟩,
 ⟨275,.func #[264] #[264] false,⟨.func #[264] #[264] false, "func(circle.fix) circle.fix", 1,8,true,8,8,some (.nilFunc),false,#[]⟩⟩]
def y9:lE prog TT:=EG.ok ⟨⟨underlying3,aF⟩,⟨underlying4,aF⟩,⟨underlying9,aF⟩,⟨underlying22,aF⟩,⟨underlying23,aF⟩,⟨underlying25,aF⟩,⟨underlying26,aF⟩,⟨underlying28,aF⟩,⟨underlying31,aF⟩,⟨underlying34,aF⟩,⟨underlying37,aF⟩,⟨underlying39,aF⟩,⟨underlying43,aF⟩,⟨underlying46,aF⟩,⟨underlying48,aF⟩,⟨underlying49,aF⟩,⟨underlying59,aF⟩,⟨underlying64,aF⟩,⟨underlying72,aF⟩,⟨underlying74,aF⟩,⟨underlying78,aF⟩,⟨underlying80,aF⟩,⟨underlying85,aF⟩,⟨underlying96,aF⟩,⟨underlying104,aF⟩,⟨underlying131,aF⟩,⟨underlying150,aF⟩,⟨underlying151,aF⟩,⟨underlying160,aF⟩,⟨underlying166,aF⟩,⟨underlying168,aF⟩,⟨underlying170,aF⟩,⟨underlying173,aF⟩,⟨underlying200,aF⟩,⟨underlying201,aF⟩,⟨underlying210,aF⟩,⟨underlying216,aF⟩,⟨underlying219,aF⟩,⟨underlying220,aF⟩,⟨underlying227,aF⟩,⟨underlying229,aF⟩,⟨underlying233,aF⟩,⟨underlying257,aF⟩,⟨underlying264,aF⟩,⟨underlying275,aF⟩,trivial⟩
end Go.Proofs.YtkjkcjhacddojaaGreatDoor
namespace Go.Proofs.YtkjkcjhacddojaaGreatDoor.Pu
open Go.RowKit
def E.lW:E->Nat->Nat->E
 | .sl _ _ _ el,i,j=>el i j
 |_,_,_=>.any
section
variable {P:Program} {K:World->Prop}
def Sp.pre{c:Code}{σ τ:PS}{Q:Ex->PS->Prop}(h:PS.le σ τ)(k:Sp P K c τ Q):Sp P K c σ Q:=λw0 B a w L g r=>
 let⟨L',r'⟩:=h w0 B a w L (λb hb=>(g.hB b hb).1) r;k w0 B a w L' g r'
def Sp.post{c:Code}{σ:PS}{Q Q':Ex->PS->Prop}(h:Sp P K c σ Q)(k:∀ e τ,Q e τ->∃ τ',PS.le τ τ'/\Q' e τ'):Sp P K c σ Q':=λw0 B a w L g r=>
 Code.wp_mono (λ_ _ _ ⟨ex,τ,L',h1,h2,h3⟩=>let⟨τ',q1,q2⟩:=k ex τ h2;let⟨L2,r2⟩:=q1 w0 B _ _ L' (λb hb=>(g.hB b hb).1) h3;⟨ex,τ',L2,h1,q2,r2⟩) (h w0 B a w L g r)
def Sp.Yy{α:Type}(f:α->PS)(p:α->Prop)(m:α->Nat){b:Code}{e:Ex}{τ:PS}
 (step:∀ x,p x->Sp P K b (f x) (λe' υ=>(e' = .normal/\∃ y,p y/\m y<m x/\υ=f y)\/(e' ≠ .normal/\e'=e/\υ=τ))) {σ:PS} (x:α) (hx:p x) (h0:PS.le σ (f x)):
 Sp P K (.loop b) σ (λe' υ=>e'=e/\υ=τ):=by
 refine Sp.pre h0 ?_;refine Sp.loop (Q:=λe' υ=>e'=e/\υ=τ) (λn σ=>∃ x,p x/\m x=n/\σ=f x) (λn σ ⟨x,h1,h2,h3⟩=>?_) (m x) (f x) ⟨x,hx,rfl,rfl⟩;subst h3 h2;exact(step x h1).mono λe' υ h=>h.imp (λ⟨q1,y,q2,q3,q4⟩=>⟨q1,m y,q3,y,q2,rfl,q4⟩) id
def Sp.Yz{α:Type}{f:α->PS}{p:α->Prop}{m:α->Nat}{b:Code}{e:Ex}{τ υ:PS}{x:α}(y:α)(h:Sp P K b (f x) (λe' υ'=>e' = .normal/\υ'=υ))(hy:p y)(hm:m y<m x)(hl:PS.le υ (f y)):
 Sp P K b (f x) (λe' υ=>(e' = .normal/\∃ y,p y/\m y<m x/\υ=f y)\/(e' ≠ .normal/\e'=e/\υ=τ)):=
 h.post λ_ _ ⟨h1,h2⟩=>⟨f y,h2▸hl,.inl ⟨h1,y,hy,hm,rfl⟩⟩
def Sp.YA{α:Type}{f:α->PS}{p:α->Prop}{m:α->Nat}{b:Code}{e:Ex}{τ υ:PS}{x:α}(h:Sp P K b (f x) (λe' υ'=>e'=e/\υ'=υ))(he:e ≠ .normal)(hl:PS.le υ τ):
 Sp P K b (f x) (λe' υ=>(e' = .normal/\∃ y,p y/\m y<m x/\υ=f y)\/(e' ≠ .normal/\e'=e/\υ=τ)):=
 h.post λ_ _ ⟨h1,h2⟩=>⟨τ,h2▸hl,.inr ⟨h1▸he,h1,rfl⟩⟩
end
def yB(k:Nat):Code->Option Code
 | .loop b=>if Nat.beq (CM b) k then some b else yB k b
 | .seq a b=>match yB k a with
  |some c=>some c
  |none=>yB k b
 | .cond _ a b=>match yB k a with
  |some c=>some c
  |none=>yB k b
 | .block _ b=>yB k b
 | .scope b=>yB k b
 |_=>none
def VA(k:Nat)(fn:Func):Code:=((fn.body.bind (yB k)).getD .skip)
def Bx.le.iH{a b:Bx}(h:a=b):Bx.le a b:=h▸Bx.le.refl a
def Bx.le.cells{T:TypeId}{l m:List E}(hn:(l.all E.mv=true->m.all E.mv=true))(h:r8 l m):Bx.le (.cells T l) (.cells T m):=⟨hn,λ_ _ _ _ _ ⟨b,vs,h1,h2,h3,h4,h5⟩=>⟨b,vs,h1,h2,h3,h.GJ h4,h5⟩⟩
def Bx.le.row{nl:Bool}{T:TypeId}{n n' sz:Nat}{el el':Nat->Nat->E}(hn:n=n')(h:∀ i j,i<n->j<sz->E.le (el i j) (el' i j)/\(el' i j).nr 2=true):Bx.le (.row nl T n sz el) (.row nl T n' sz el'):=
 ⟨id,λ_ _ _ _ _ ⟨f,h1,h2,h3⟩=>by subst hn;exact⟨f,h1,h2,λi j hi hj=>⟨(h i j hi hj).1 _ _ _ _ (h3 i j hi hj).1,(h i j hi hj).2⟩⟩⟩
def Bx.le.lf{nl:Bool}{T1 T0:TypeId}{n n' sz:Nat}{len len':Nat->Nat}{el el':Nat->Nat->Nat->E}{pend:Option Nat}(hn:n=n')(hl:∀ k,k<n->len k=len' k)
 (h:∀ k i j,k<n->i<len k->j<sz->E.le (el k i j) (el' k i j)/\(el' k i j).nr 2=true):Bx.le (.lf nl T1 T0 n sz len el pend) (.lf nl T1 T0 n' sz len' el' pend):=
 ⟨id,λ_ _ _ _ _ ⟨b,c,cur,f,h1,h2,h3,h4,h5,h6,h7,h8,h9,sw,tf⟩=>by
  subst hn;refine⟨b,c,cur,f,h1,h2,h3,h4,h5,h6,h7,λk hk=>?_,h9,sw,tf⟩;rw[<-hl k hk];exact⟨(h8 k hk).1,λi j hi hj=>⟨(h k i j hk hi hj).1 _ _ _ _ ((h8 k hk).2 i j hi hj).1,(h k i j hk hi hj).2⟩⟩⟩
def PS.le.aa5{σ τ:PS}(hn:σ.n=τ.n)(jE:(τ.b.all λx=>x.2.nl)=true)(hr:D8 τ=true)(ht:vg σ τ.t)(hb:ue σ τ.b):PS.le σ τ:=λw0 B a w L _ r=>by
 let L':Lk:=⟨λid=>L.na id/\(τ.bo id).isSome=true,λid x=>L.own id x/\(τ.bo id).isSome=true,L.val,L.iW⟩
 have iA:rp L w L' w:=⟨bd _,λx _ ⟨id,h,_⟩=>⟨id,h⟩,λ_ _ _=>rfl⟩
 refine⟨L',r.hd,by rw[<-hn];exact r.hs,λt=>?_,λid b h=>?_,λid=>?_,λid x h=>⟨r.hn id x h.1,h.2⟩,λid x h=>r.hw id x h.1,λid id' x h k=>r.hi id id' x h.1 k.1,r.he,λh id b k=>?_⟩
 .have hg:τ.get t=((look τ.t t)).getD (.e .any):=rfl;cases hl:look τ.t t with
  |none=>rw[hg,hl];exact .any _
  |some p=>
   rw[hg,hl];have:=ht.get hl _ _ _ _ _ (r.ht t);refine mH.move iA this λid hid tn=>⟨⟨tn,?_⟩,rfl,λ_=>rfl⟩
   have q:=bY.1 hr _ (Ks hl);exact bY.1 q id hid
 .obtain ⟨b',h1,h2⟩:=hb.get h;have hs:(τ.bo id).isSome=true:=by rw[h];rfl
  exact(h2.2 _ _ _ _ _ (r.hb id b' h1)).later iA rfl (λx=>⟨λq=>q.1,λq=>⟨q,hs⟩⟩) (λ_=>rfl) λ_ _=>rfl
 .show L.na id/\(τ.bo id).isSome=true↔(τ.bo id).isSome=true;refine⟨λh=>h.2,λh=>⟨(r.hv id).2 ?_,h⟩⟩;obtain⟨b,jO⟩:=fX.1 h;obtain⟨b',h1,_⟩:=hb.get jO;rw[h1];rfl
 .exact bY.1 jE _ (Ks k)
def PV.vz(id:Nat)(e:E)(p:PV):PV:=match p with
 | .own i=>if Nat.beq i id then .e e else .own i
 |p=>if p.pz.any (Nat.beq id)then .e .any else p
def PS.vz(σ:PS)(id:Nat)(e:E):PS:={ σ with t:=σ.t.map λx=>(x.1,x.2.vz id e),b:=σ.b.filter λx=>!Nat.beq x.1 id }
def Bx.as:Bx->Option E
 | .row nl _ n sz el=>some (.sl nl n sz el)
 | .lf nl _ _ n sz len el none=>some (.sl true n 1 λk _=>.sl nl (len k) sz (el k))
 |_=>none
def PS.le.freeze{σ:PS}(id:Nat){b:Bx}{e:E}(jO:σ.bo id=some b)(he:b.as=some e):PS.le σ (σ.vz id e):=λw0 B a w L hB r=>by
 let L':Lk:=⟨λi=>L.na i/\i≠id,λi x=>L.own i x/\i≠id,L.val,L.iW⟩
 have iA:rp L w L' w:=⟨bd _,λx _ ⟨i,h,_⟩=>⟨i,h⟩,λ_ _ _=>rfl⟩
 have uz:∀ i,(σ.vz id e).bo i=if i=id then none else σ.bo i:=by
  intro i;unfold PS.bo PS.vz;by_cases h:i=id
  .subst h;simp only[bD];exact QX _ _
  .rw [aY h];exact DB _ _ _ (λe=>h e.symm)
 have xZ:∀ x,L.own id x->¬ja B L' x:=by
  rintro x hx (h|⟨i,h1,h2⟩)
  .have:=hB x h;have:=(r.hw id x hx).1;omega
  .exact h2 (r.hi i id x h1 hx)
 have own:∀ (v:Value) (T:TypeId) (n sz:Nat) (f:Nat->Nat->Value) (nl:Bool) (el:Nat->Nat->E),pg w v T n sz f nl->(∀ x,v.ownBlock=some x->L.own id x) ->
  (∀ i j,i<n->j<sz->iB (ja B L) (jF L) w (el i j) (f i j)/\(el i j).nr 2=true)->iB (ja B L') (jF L') w (.sl nl n sz el) v:=by
  intro v T n sz f nl el h1 h2 h3;rcases h1 with⟨rfl,rfl⟩|⟨b,c,cur,rfl,hg,oI,nG,mJ,kF,jE⟩
  .exact .sl nl 0 sz el none 0 f (bd _) aE (λ_=>rfl) (λi j hi=>absurd hi (bE i)) (λi j hi=>absurd hi (bE i)) (λi j hi=>absurd hi (bE i)) (λi j hi=>absurd hi (bE i))
  .have qj:=h2 b rfl;refine .sl nl n sz el _ c f oI (by unfold maxLen at nG;omega) (λh=>by cases h) (λi j hi hj=>⟨(kF i j hi hj).2,λhn=>jE hn _ (dF (kF i j hi hj).1)⟩) (λi j hi hj=>(h3 i j hi hj).2)
    (λi j hi hj=>⟨b,0,rfl,xZ b qj,(r.hw id b qj).2,?_⟩) (λi j hi hj=>iA.ko (h3 i j hi hj).1)
   rw[bW];simp only[World.cell?,hg];simpa using(kF i j hi hj).1
 have hold:∀ v,v=L.val id->iB (ja B L') (jF L') w e v:=by
  rintro v rfl;have Pg:=r.hb id b jO;cases b with
  |cells T l=>cases he
  |row nl T n sz el=>
   cases he;obtain⟨f,h1,h2,h3⟩:=Pg;exact own _ T n sz f nl el h1 (λx hx=>(h2 x).2 hx) h3
  |lf nl T1 T0 n sz len el pend=>
   cases pend with
   |some k=>cases he
   |none=>
    cases he;obtain⟨b,c,cur,f,h1,h2,h3,h4,h5,h6,h7,h8,h9,sw,tf⟩:=Pg;have qj:L.own id b:=(h9 b).2 (.inl rfl);rw[h1];refine .sl true n 1 _ _ c (λk _=>L.iW id k) h3 (by unfold maxLen at h4;omega) (λh=>by cases h) (λk j hk hj=>?_) (λk j hk hj=>rfl)
     (λk j hk hj=>⟨b,0,rfl,xZ b qj,(r.hw id b qj).2,?_⟩) (λk j hk hj=>own _ T0 (len k) sz (f k) nl (el k) (h8 k hk).1 (λx hx=>(h9 x).2 (.inr ⟨k,hk,hx⟩)) (h8 k hk).2)
    .obtain ⟨q1,q2⟩:=h7 _ (dF (h6 k hk aH));exact⟨q1,λ_=>q2⟩
    .rw [bW,ch];obtain rfl:j=0:= aC ;simp only[World.cell?,h2];simpa using h6 k hk aH 
 refine⟨L',r.hd,r.hs,λt=>?_,λi b' h=>?_,λi=>?_,λi x h=>⟨r.hn i x h.1,h.2⟩,λi x h=>r.hw i x h.1,λi i' x h k=>r.hi i i' x h.1 k.1,r.he,λh i b' k=>?_⟩
 .have hg:(σ.vz id e).get t=(σ.get t).vz id e:=by
   unfold PS.get PS.vz;rw[QY];cases look σ.t t<;>rfl
  rw[hg];have k:=r.ht t;generalize σ.get t=p at k;have move:∀ (p:PV) (v:Value),mH (ja B L) (jF L) L w p v->(p.pz.any (Nat.beq id))=false->mH (ja B L') (jF L') L' w p v:=by
   intro p v k hp;refine mH.move iA k λi hi tn=>⟨⟨tn,?_⟩,rfl,λ_=>rfl⟩
   rintro rfl;have:=dp.1 hp i hi;simp at this
  have gen:∀ (p:PV) (v:Value),mH (ja B L) (jF L) L w p v->mH (ja B L') (jF L') L' w (if p.pz.any (Nat.beq id)then .e .any else p) v:=by
   intro p v k;cases hp:p.pz.any (Nat.beq id)with
   |true=>exact .any _
   |false=>exact move p v k hp
  cases p with
  |own i=>
   simp only[PV.vz];by_cases hi:i=id
   .subst hi;rw[dC,aZ rfl];exact hold _ k.2
   .rw [dD hi,aY aE];exact⟨⟨k.1,hi⟩,k.2⟩
  |_=>exact gen _ _ k
 .rw [uz]at h;split at h
  .cases h
  .rename_i hi;exact(r.hb i b' h).later iA rfl (λx=>⟨λq=>q.1,λq=>⟨q,hi⟩⟩) (λ_=>rfl) λ_ _=>rfl
 .rw [uz];show L.na i/\i≠id↔_;by_cases hi:i=id
  .subst hi;simp
  .simp only[hi,cP,ew,and_true,bq];exact r.hv i
 .rw [uz]at k;split at k
  .cases k
  .exact r.hl h i b' k
def PS.AP(σ:PS)(t id:Nat)(b:Bx):PS:={ σ with t:=(t,.own id)::σ.t.filter (λx=>!Nat.beq x.1 t),b:=(id,b)::σ.b }
def PS.le.UC{σ:PS}(t id:Nat){nl:Bool}{T:TypeId}{sz:Nat}{el:Nat->Nat->E}(jO:σ.bo id=none)(hg:σ.get t = .e (.v (.slice none 0 0)))(jE:σ.nl=true->nl=true):PS.le σ (σ.AP t id (.row nl T 0 sz el)):=λw0 B a w L hB r=>by
 have tl:¬L.na id:=λh=>by have:=(r.hv id).1 h;rw[jO]at this;cases this
 let L':Lk:=⟨λi=>L.na i\/i=id,L.own,λi=>if i=id then .slice none 0 0 else L.val i,L.iW⟩
 have iA:rp L w L' w:=⟨bd _,λx _ h=>h,λ_ _ _=>rfl⟩
 have uz:∀ i,(σ.AP t id (.row nl T 0 sz el)).bo i=if i=id then some (.row nl T 0 sz el)else σ.bo i:=by
  intro i;unfold PS.bo PS.AP;rw[rM];by_cases h:id=i
  .rw [aZ h,aZ h.symm]
  .rw [aY h,aY (λe=>h e.symm)]
 have hv:a.tmps.getD t undef = .slice none 0 0:=by
  have:=r.ht t;rw[hg]at this;exact iB.jX this
 refine⟨L',r.hd,r.hs,λs=>?_,λi b' h=>?_,λi=>?_,λi x h=>.inl (r.hn i x h),r.hw,r.hi,r.he,λh i b' k=>?_⟩
 .have hgs:(σ.AP t id (.row nl T 0 sz el)).get s=if t=s then .own id else σ.get s:=by
   unfold PS.get PS.AP;simp only[rM];by_cases h:t=s
   .rw [aZ h,aZ h];rfl
   .rw [aY h,aY h,DB _ _ _ h]
  rw[hgs];by_cases h:t=s
  .subst h;rw[aZ rfl,hv];exact⟨.inr rfl,(aZ rfl).symm⟩
  .rw [aY h];refine mH.move iA (r.ht s) λi _ tn=>⟨.inl tn,aY (λ(q:i=id)=>tl (q▸tn)),λ_=>rfl⟩
 .rw [uz]at h;split at h
  .rename_i hi;subst hi;cases h;refine⟨λ_ _=>undef,.inl ⟨aZ rfl,rfl⟩,λx=>⟨λq=>absurd (r.hn _ _ q) tl,λq=>?_⟩,λi j hi=>absurd hi (bE i)⟩;have e1:L'.val i = .slice none 0 0:=aZ rfl;rw[e1]at q;cases q
  .rename_i hi;exact(r.hb i b' h).later iA (aY hi) (λ_=>Iff.rfl) (λ_=>rfl) λ_ _=>rfl
 .rw [uz];show L.na i\/i=id↔_;by_cases hi:i=id
  .subst hi;simp
  .simp only[hi,or_false,bq];exact r.hv i
 .rw [uz]at k;split at k
  .cases k;exact jE h
  .exact r.hl h i b' k
end Go.Proofs.YtkjkcjhacddojaaGreatDoor.Pu
namespace Go.Proofs.YtkjkcjhacddojaaGreatDoor.Fp
def lX(x i:Nat)(b o:List Nat):Nat->List Nat×Nat
 | 0=>(o,0)
 |k+1=>
  let r:=lX x i b o k
  let z:=x*b.getD k 0+r.1.getD (i+k) 0+r.2
  (r.1.set (i+k) (z%4294967296),z/4294967296)
def kA(a b:List Nat):Nat->List Nat
 | 0=>List.replicate (a.length+b.length) 0
 |i+1=>
  let r:=lX (a.getD i 0) i b (kA a b i) b.length
  r.1.set (i+b.length) (r.2%4294967296)
def Rg{x y:Nat}(hx:x<4294967296)(hy:y<4294967296):x*y<=18446744065119617025:=by
 have:=cW (aC:x<=4294967295) (aC:y<=4294967295);omega
def AJ{L:List Nat}{k x:Nat}(hk:k<L.length):val (L.set k x)+4294967296^k*L.getD k 0=val L+4294967296^k*x:=by
 have:=LS (x:=x) hk;rwa[bc,bt hk]
def xV{L:List Nat}{k j x:Nat}(h:k≠j):(L.set k x).getD j 0=L.getD j 0:=by
 simp only[bc,List.getElem?_set_ne h]
def YV{L:List Nat}{k x:Nat}(h:k<L.length):(L.set k x).getD k 0=x:=by
 simp[bc,h]
structure Us(x i:Nat)(b o:List Nat)(k:Nat)(r:List Nat×Nat):Prop where
 ok:iD r.1
 len:r.1.length=o.length
 lt:r.2<4294967296
 eq:val r.1+4294967296^(i+k)*r.2=val o+4294967296^i*(x*val (b.take k))
 oP:∀ j,i+k<=j->r.1.getD j 0=o.getD j 0
def DJ{x i:Nat}{b o:List Nat}(hx:x<4294967296)(hb:iD b)(ho:iD o)(hl:i+b.length<=o.length):∀ k,k<=b.length->Us x i b o k (lX x i b o k)
 | 0,_=>⟨ho,rfl,Nat.zero_lt_succ _,by simp[lX,val],λ_ _=>rfl⟩
 |k+1,hk=>by
  obtain⟨h1,h2,h3,h4,h5⟩:=DJ hx hb ho hl k aC;have hy:=hb.getD k;have hw:=h1.getD (i+k);have hm:=Rg hx hy;have hv:=uc b k;simp only[lX];generalize lX x i b o k=r at *
  generalize hz:x*b.getD k 0+r.1.getD (i+k) 0+r.2=z;have Dd:=AJ (L:=r.1) (k:=i+k) (x:=z%4294967296) aC;refine⟨h1.set _ (bC _ aE),by simpa using h2,by show z/4294967296<_;omega,?_,λj hj=>?_⟩
  .have e1:z=z%4294967296+4294967296*(z/4294967296):=(dV z _).symm;show val (r.1.set (i+k) (z%4294967296))+4294967296^(i+(k+1))*(z/4294967296)=_;rw[hv,bJ x,bJ (4294967296^i),<-dj (val o),<-h4];have e2:4294967296^(i+(k+1))*(z/4294967296)=4294967296^(i+k)*(4294967296*(z/4294967296)):=by rw[(aC:i+(k+1)=(i+k)+1),bw,bu]
   have e3:4294967296^i*(x*(4294967296^k*b.getD k 0))=4294967296^(i+k)*(x*b.getD k 0):=by rw[bk];simp only[bu,dL]
   rw[e2,e3];have e4:4294967296^(i+k)*z=4294967296^(i+k)*(x*b.getD k 0)+4294967296^(i+k)*r.1.getD (i+k) 0+4294967296^(i+k)*r.2:=by rw[<-hz,bJ,bJ]
   have e5:4294967296^(i+k)*z=4294967296^(i+k)*(z%4294967296)+4294967296^(i+k)*(4294967296*(z/4294967296)):=by rw[<-bJ,<-e1]
   omega
  .show (r.1.set (i+k) _).getD j 0=_;rw[xV aC,h5 j aC]
structure Ut(a b:List Nat)(i:Nat)(o:List Nat):Prop where
 ok:iD o
 len:o.length=a.length+b.length
 eq:val o=val (a.take i)*val b
 zero:∀ j,i+b.length<=j->o.getD j 0=0
def DK{a b:List Nat}(ha:iD a)(hb:iD b):∀ i,i<=a.length->Ut a b i (kA a b i)
 | 0,_=>⟨iD.B2 _,by simp[kA],by simp[kA,yZ,val],λj _=>by
  by_cases h:j<a.length+b.length<;>simp[kA,bc,fC,h]⟩
 |i+1,hi=>by
  obtain⟨h1,h2,h3,h4⟩:=DK ha hb i aC;obtain⟨q1,q2,q3,q4,q5⟩:=DJ (ha.getD i) hb h1 (i:=i) aC b.length (bd _);have hv:=uc a i;simp only[kA];generalize lX (a.getD i 0) i b (kA a b i) b.length=r at *
  have Dd:=AJ (L:=r.1) (k:=i+b.length) (x:=r.2%4294967296) aC;rw[q5 _ (bd _),h4 _ (bd _),cA,bL,bZ q3,q4,gl,h3]at Dd;refine⟨q1.set _ (bC _ aE),aN,?_,λj hj=>?_⟩
  .rw [bZ q3,Dd,hv,bR,bu]
  .rw [xV aC,q5 _ aC,h4 _ aC]
def age{a b:List Nat}(ha:iD a)(hb:iD b):val (kA a b a.length)=val a*val b:=by
 have:=(DK ha hb a.length (bd _)).eq;rwa[gl]at this
end Go.Proofs.YtkjkcjhacddojaaGreatDoor.Fp
namespace Go.Proofs.YtkjkcjhacddojaaGreatDoor
open Go.RowKit Fp Pu
abbrev oB(L:List Nat):Nat->Nat->E:=λi _=>.v (.int .u32 (L.getD i 0:Int))
def Cg(n:Nat):IntKind.u32.wrap (n:Int)=((n%4294967296:Nat):Int):=by rw[IntKind.wrap_u32];omega
def Qo(n:Nat)(h:n<9223372036854775808):IntKind.i64.wrap (n:Int)=n:=by rw[IntKind.wrap_i64];omega
def S3(n:Nat):(n:Int)/2^32=((n/4294967296:Nat):Int):= aC 
def Ta{L:List Nat}{n:Nat}(h:n=L.length):E.le (.sl false n 1 (oB L)) (gW L):=by subst h;exact .refl _
def SH{T n n':Nat}{L:List Nat}(hn:n=n')(h:∀ i,L.getD i 0=0):Bx.le (.row false T n 1 λ_ j=>[.v (.int .u32 0)].getD j .any) (.row false T n' 1 (oB L)):=
 .row hn λi j _ hj=>by
  obtain rfl:j=0:= aC ;refine⟨.iH ?_,rfl⟩;show E.v (.int .u32 0)=E.v (.int .u32 (L.getD i 0:Int));rw[h i];rfl
def Lp{T n n' p:Nat}{L:List Nat}{z:Nat}(hn:n=n')(hp:p<L.length):Bx.le (.row false T n 1 λi' j'=>if i'=p/\0<=j'/\j'<0+1 then[.v (.int .u32 (z:Int))].getD (j'-0) .any else(oB L) i' j') (.row false T n' 1 (oB (L.set p z))):=
 .row hn λi j _ hj=>by
  obtain rfl:j=0:= aC ;refine⟨.iH ?_,rfl⟩;by_cases h:i=p
  .subst h;rw[aZ ⟨rfl,aC,aC⟩];show E.v (.int .u32 (z:Int))=E.v (.int .u32 (((L.set i z).getD i 0:Nat):Int));rw[Fp.YV hp]
  .rw [aY (λq=>h q.1)];show E.v (.int .u32 (L.getD i 0:Int))=E.v (.int .u32 (((L.set p z).getD i 0:Nat):Int));rw[Fp.xV (λq=>h q.symm)]
def Sz{k l:IntKind}{a b c d:Int}(h:a=b)(h':c=d):Ending.returned (.tuple #[.int k a,.int l c]) = .returned (.tuple #[.int k b,.int l d]):=by rw[h,h']
def Co(x y c:Nat)(w:World)(hx:x<4294967296)(hy:y<4294967296)(hc:c<=1):
 Calls prog 379 #[.int .u32 x,.int .u32 y,.int .u32 c] w λe w'=>e = .returned (.tuple #[.int .u32 (((x+y+c)%4294967296:Nat):Int),.int .u32 (((x+y+c)/4294967296:Nat):Int)])/\w=w':=by
 go_enter func379,ntmps379;go_wp2;go_ret2;refine⟨?_,rfl⟩;exact Sz aC aC 
def af2(a b:Nat)(ha:a<4294967296)(hb:b<4294967296):bits .or .u32 (a:Int) (b:Int)=((a |||b:Nat):Int):=by
 have h2:a |||b<2^32:=ahd ha hb
 show IntKind.u32.wrap ((BitVec.ofInt 32 (a:Int) |||BitVec.ofInt 32 (b:Int)).toNat:Int)=_;rw[BitVec.toNat_or,eZ,eZ];rw[show((a:Int)%((2^32:Nat):Int)).toNat=a by omega,show((b:Int)%((2^32:Nat):Int)).toNat=b by omega];rw[IntKind.wrap_u32];omega
def TR(a b:Nat)(ha:a<4294967296)(hb:b<4294967296):bits .and .u32 (a:Int) (b:Int)=((a &&& b:Nat):Int):=by
 have h2:a &&& b<2^32:=eX a hb;show IntKind.u32.wrap ((BitVec.ofInt 32 (a:Int) &&& BitVec.ofInt 32 (b:Int)).toNat:Int)=_;rw[BitVec.toNat_and,eZ,eZ];rw[show((a:Int)%((2^32:Nat):Int)).toNat=a by omega,show((b:Int)%((2^32:Nat):Int)).toNat=b by omega];rw[IntKind.wrap_u32];omega
def LP(a b:Nat)(ha:a<4294967296)(hb:b<4294967296):bits .xor .u32 (a:Int) (b:Int)=((a ^^^ b:Nat):Int):=by
 have h2:a ^^^ b<2^32:=eC ha hb;show IntKind.u32.wrap ((BitVec.ofInt 32 (a:Int) ^^^ BitVec.ofInt 32 (b:Int)).toNat:Int)=_;rw[BitVec.toNat_xor,eZ,eZ];rw[show((a:Int)%((2^32:Nat):Int)).toNat=a by omega,show((b:Int)%((2^32:Nat):Int)).toNat=b by omega];rw[IntKind.wrap_u32];omega
def G5(n:Nat)(h:n<4294967296):n/2147483648=(n.testBit 31).toNat:=by
 rw[Nat.testBit_eq_decide_div_mod_eq,show(2:Nat)^31=2147483648 from rfl];have h2:n/2147483648<2:= aC ;generalize n/2147483648=q at *
 have:q=0\/q=1:= aC ;rcases this with rfl|rfl<;>rfl
def afl(x y c d:Nat)(hx:x<4294967296)(hy:y<4294967296)(hc:c<=1)(hd:d=(x+(4294967296-y)+(4294967296-c))%4294967296):
 (((4294967295 ^^^ x) &&& y) ||| ((4294967295 ^^^ (x ^^^ y)) &&& d))/2147483648=if x<y+c then 1 else 0:=by
 have zF:d<4294967296:= aC ;have h1:4294967295 ^^^ x<2^32:=eC aE hx;have h2:x ^^^ y<2^32:=eC hx hy;have h3:4294967295 ^^^ (x ^^^ y)<2^32:=eC aE h2;have h4:(4294967295 ^^^ x) &&& y<2^32:=eX _ hy;have h5:(4294967295 ^^^ (x ^^^ y)) &&& d<2^32:=eX _ zF;rw[G5 _ (ahd h4 h5)];have tx:=G5 x hx;have ty:=G5 y hy;have td:=G5 d zF;rw[Nat.testBit_or,Nat.testBit_and,Nat.testBit_and,ahg,ahg,ahg,show(4294967295:Nat).testBit 31=true by decide];clear h1 h2 h3 h4 h5;generalize x.testBit 31=p at *
 generalize y.testBit 31=q at *
 generalize d.testBit 31=r at *
 cases p<;>cases q<;>cases r<;>simp at tx ty td ⊢ <;> omega
def zj(x y c:Nat):Nat:=if x<y+c then 1 else 0
def vt(x y c:Nat):Nat:=(x+(4294967296-y)+(4294967296-c))%4294967296
def CB(x y c:Nat)(hx:x<4294967296)(hy:y<4294967296)(hc:c<=1):vt x y c+y+c=x+4294967296*zj x y c/\zj x y c<=1/\vt x y c<4294967296:=by
 unfold vt zj;split<;>omega
def Tj(x y c:Nat)(w:World)(hx:x<4294967296)(hy:y<4294967296)(hc:c<=1):
 Calls prog 380 #[.int .u32 x,.int .u32 y,.int .u32 c] w λe w'=>e = .returned (.tuple #[.int .u32 (vt x y c:Nat),.int .u32 (zj x y c:Nat)])/\w=w':=by
 go_enter func380,ntmps380;go_wp2;go_ret2;refine⟨?_,rfl⟩;have hd:((x:Int)-y-c)%4294967296=(vt x y c:Int):=by unfold vt;omega
 have hb:=afl x y c (vt x y c) hx hy hc rfl;have hl:=(CB x y c hx hy hc).2.2;have em:IntKind.u32.max=((4294967295:Nat):Int):=rfl;refine Sz hd ?_;rw[hd,em,LP _ _ aE hx,LP _ _ hx hy];have h1:4294967295 ^^^ x<2^32:=eC aE hx;have h2:x ^^^ y<2^32:=eC hx hy;have h3:4294967295 ^^^ (x ^^^ y)<2^32:=eC aE h2;rw[LP _ _ aE h2,TR _ _ h1 hy,TR _ _ h3 hl];have h4:(4294967295 ^^^ x) &&& y<2^32:=eX _ hy;have h5:(4294967295 ^^^ (x ^^^ y)) &&& vt x y c<2^32:=eX _ hl;rw[af2 _ _ h4 h5];unfold zj;rw[<-hb];omega
def Mk{O:List Nat}{k c x y P Q P' Q':Nat}(ho:O[k]? = some 0)(h:val O+4294967296^k*c=P+Q)
 (hP:P'=P+4294967296^k*x) (hQ:Q'=Q+4294967296^k*y):
 val (O.set k ((x+y+c)%4294967296))+4294967296^(k+1)*((x+y+c)/4294967296)=P'+Q':=by
 have h1:=Rh (a:=1) (b:=x+y) (c:=c) ho;rw[bT,bL]at h1;rw[h1,h,hP,hQ,bJ];omega
def Tl{O:List Nat}{k c x y d c' P Q P' Q':Nat}(ho:O[k]? = some 0)(h:val O+Q=P+4294967296^k*c)
 (hP:P'=P+4294967296^k*x) (hQ:Q'=Q+4294967296^k*y) (hd:d+y+c=x+4294967296*c'):
 val (O.set k d)+Q'=P'+4294967296^(k+1)*c':=by
 obtain⟨hk,h0⟩:=b9.1 ho;have h1:=LS (x:=d) hk;rw[h0,cA,bL]at h1;have e:=congrArg (4294967296^k * ·) hd;simp only[bJ,<-bu]at e;rw[bw,h1,hP,hQ];omega
def sc(O:List Nat)(k:Nat):Prop:=∀ j,k<=j->j<O.length->O[j]? = some 0
def sc.at{O:List Nat}{k:Nat}(h:sc O k)(hk:k<O.length):O[k]? = some 0:=h k (bd _) hk
def sc.set{O:List Nat}{k:Nat}(h:sc O k)(v:Nat):sc (O.set k v) (k+1):=λj h1 h2=>by
 rw[List.getElem?_set_ne aC];exact h j aC (by simpa using h2)
def sc.LY(n:Nat):sc (List.replicate n 0) 0:=λj _ h=>by
 rw[fC];rw[aZ (by simpa using h)]
def Hv(w:World)(v n:Nat)(e:Ending)(w':World):Prop:=∃ T,val T=v/\iD T/\T.length=n/\r9 w T e w'
def Mb(w:World)(v n:Nat)(e:Ending)(w':World):Prop:=∃ T,val T=v/\iD T/\T.length<=n/\r9 w T e w'
def ach(A B:Option Addr)(c d:Nat)(L M:List Nat)(w:World)(hs:Sl w A c L)(hr:Sl w B d M)(h1:L.length<=3000)(_h2:M.length<=3000)(hc:M.length<=L.length):
 Calls prog 360 #[.slice A L.length c,.slice B M.length d] w (Hv w (val L+val M) (L.length+1)):=by
 obtain⟨l,hl⟩:∃ l,l=L.length:=⟨_,rfl⟩
 obtain⟨m,hm⟩:∃ m,m=M.length:=⟨_,rfl⟩
 rw[<-hl,<-hm]at hc;rw[<-hl]at h1;rw[<-hm]at _h2;have HL:=ahF hl;have HM:=ahF hm;rw[<-hl,<-hm];clear hl hm;have d0:decide ((l:Int)<m)=false:=bg aC;have d1:decide (l<m)=false:=bg aC;have oq:=DE (l+1) aC;rw[show((l+1:Nat):Int)=l+1 by omega]at oq;have vG:=ahF (Rw.xf w (l+1));go_enter func360,ntmps360;go_wp2;go_loopw [6,7,8,9,23] (λcy _ _ _ i wr=>∃ (k q:Nat) (O:List Nat),k<=l/\i = .int .i64 k/\cy = .int .u32 q/\q<=1/\O.length=l+1/\iD O/\sc O k/\val O+4294967296^k*q=val (L.take k)+val (M.take k)/\Rw wr w.heap.size O/\iz w wr) (λ_ _ _ _ i _=>l-(intOf i).toNat)
 case atStart=>
  exact⟨0,0,List.replicate (l+1) 0,bO _,rfl,rfl,aE,aH,iD.B2 _,sc.LY _,by simp[yZ],vG.out,iz.alloc _ _⟩
 case round=>
  obtain⟨k,q,O,hk,rfl,rfl,hq,hO,j8,hz,j9,hR,hb⟩:=hrel;have HV:=ahF j9;have HO:=ahF hO;clear j9 hO;have HZ:=ahF hz;clear hz;by_cases iA:k<l
  .have rC:k<L.length:=by have:=HL.out;omega
   obtain⟨ab,ao,e1,_,c1⟩:=(hs.below hb).kD rC;have lN:L[k]<4294967296:=hs.ok.get rC;have ho:=HZ.out.at (by have:=HO.out;omega)
   have c4:=hR.frozen k;have FH:=hR.cell ho;have HT:=ahF (y3 L k rC);have HY:=ahF (uc M k);have oK:M.getD k 0<4294967296:=hr.ok.getD k;have HYc:=ahF (λ(h:k<M.length)=>(hr.below hb).kD h);have HYg:=ahF (λ(h:k<M.length)=>xU h);have HYn:=ahF (λ(h:¬k<M.length)=>Bc h);have HX:=ahF (rfl:L[k]=L[k]);obtain⟨a,ha⟩:∃ a,a=L[k]:=⟨_,rfl⟩
   rw[<-ha]at c1 lN HT;clear ha HX rC;have HS:=ahF (Mk ho HV.out HT.out HY.out);have HN:=ahF (λv=>HZ.out.set v);have HOK:=ahF (λv=>j8.SY k v);have HR2:=ahF (λv:Nat=>hR.set k v);have HE2:=ahF (λv:Value=>hb.setCell (p:=⟨w.heap.size,k,none⟩) (bd _) v);clear ho hR hb j8;subst e1;by_cases Qj:k<m
   .have uD:k<M.length:=by have:=HM.out;omega
    obtain⟨bb,bo,e2,_,c2⟩:=HYc.out uD;subst e2;rw[<-HYg.out uD]at c2;generalize M.getD k 0=b at *
    clear HYc HYg HYn uD;have HA:=ahF (λw=>Co a b q w lN oK hq);go_wp2_with fail;refine(HA.out _).mono ?_;rintro e w1 ⟨rfl,rfl⟩;go_wp2;go_roundw
    case rel=>
     exact⟨k+1,(a+b+q)/4294967296,O.set k ((a+b+q)%4294967296),aC,by go_num,rfl,aC,by rw[cX];exact HO.out,HOK.out _,HN.out _,HS.out,HR2.out _,HE2.out _⟩
    case measure=>simp[intOf];omega
   .rw [HYn.out (by have:=HM.out;omega)]at HS;clear HYc HYg HYn oK HY;have HA:=ahF (λw=>Co a 0 q w lN aE hq);go_wp2_with fail;refine(HA.out _).mono ?_;rintro e w1 ⟨rfl,rfl⟩;go_wp2;go_roundw
    case rel=>
     exact⟨k+1,(a+0+q)/4294967296,O.set k ((a+0+q)%4294967296),aC,by go_num,rfl,aC,by rw[cX];exact HO.out,HOK.out _,HN.out _,HS.out,HR2.out _,HE2.out _⟩
    case measure=>simp[intOf];omega
  .obtain rfl:k=l:= aC ;have ho:=HZ.out.at (by have:=HO.out;omega)
   have c4:=hR.frozen k;have FH:=hR.cell ho;have HF:=ahF (show val (O.set k q)=val L+val M by
    have h:=M3 (c:=q) ho;rw[bW,bZ aC,cV aC,cA,bL,HV.out,show L.take k=L from cG (by rw[HL.out];exact bd _),show M.take k=M from cG (by rw[<-HM.out];omega)]at h;omega)
   have HLn:=ahF (show(O.set k q).length=k+1 by rw[cX];exact HO.out);have HOK:Hid (iD (O.set k q)):=j8.set k aC;have HR2:=ahF (hR.set k q);have HE2:=ahF (λv:Value=>hb.setCell (p:=⟨w.heap.size,k,none⟩) (bd _) v);clear ho hR hb j8;go_wp2;go_ret;have tz:=HR2.out.sl HOK.out (by rw[HLn.out];omega);rw[HLn.out]at tz;exact⟨_,HF.out,HOK.out,HLn.out,_,_,(by rw[HLn.out];rfl),tz,HE2.out _⟩
def aci(A B:Option Addr)(c d:Nat)(L M:List Nat)(w:World)(hs:Sl w A c L)(hr:Sl w B d M)(h1:L.length<=3000)(h2:M.length<=3000)(hc:L.length<M.length):
 Calls prog 360 #[.slice A L.length c,.slice B M.length d] w (Hv w (val L+val M) (M.length+1)):=by
 obtain⟨l,hl⟩:∃ l,l=L.length:=⟨_,rfl⟩
 obtain⟨m,hm⟩:∃ m,m=M.length:=⟨_,rfl⟩
 rw[<-hl,<-hm]at hc;rw[<-hl]at h1;rw[<-hm]at h2;have HL:=ahF hl;have HM:=ahF hm;rw[<-hl,<-hm];clear hl hm;have d0:decide ((l:Int)<m)=true:=bh aC;have d1:decide (l<m)=true:=bh aC;have oq:=DE (m+1) aC;rw[show((m+1:Nat):Int)=m+1 by omega]at oq;have vG:=ahF (Rw.xf w (m+1));go_enter func360,ntmps360;go_wp2;go_loopw [6,7,8,9,23] (λcy _ _ _ i wr=>∃ (k q:Nat) (O:List Nat),k<=m/\i = .int .i64 k/\cy = .int .u32 q/\q<=1/\O.length=m+1/\iD O/\sc O k/\val O+4294967296^k*q=val (M.take k)+val (L.take k)/\Rw wr w.heap.size O/\iz w wr) (λ_ _ _ _ i _=>m-(intOf i).toNat)
 case atStart=>
  exact⟨0,0,List.replicate (m+1) 0,bO _,rfl,rfl,aE,aH,iD.B2 _,sc.LY _,by simp[yZ],vG.out,iz.alloc _ _⟩
 case round=>
  obtain⟨k,q,O,hk,rfl,rfl,hq,hO,j8,hz,j9,hR,hb⟩:=hrel;have HV:=ahF j9;have HO:=ahF hO;clear j9 hO;have HZ:=ahF hz;clear hz;by_cases iA:k<m
  .have rC:k<M.length:=by have:=HM.out;omega
   obtain⟨ab,ao,e1,_,c1⟩:=(hr.below hb).kD rC;have lN:M[k]<4294967296:=hr.ok.get rC;have ho:=HZ.out.at (by have:=HO.out;omega)
   have c4:=hR.frozen k;have FH:=hR.cell ho;have HT:=ahF (y3 M k rC);have HY:=ahF (uc L k);have oK:L.getD k 0<4294967296:=hs.ok.getD k;have HYc:=ahF (λ(h:k<L.length)=>(hs.below hb).kD h);have HYg:=ahF (λ(h:k<L.length)=>xU h);have HYn:=ahF (λ(h:¬k<L.length)=>Bc h);have HX:=ahF (rfl:M[k]=M[k]);obtain⟨a,ha⟩:∃ a,a=M[k]:=⟨_,rfl⟩
   rw[<-ha]at c1 lN HT;clear ha HX rC;have HS:=ahF (Mk ho HV.out HT.out HY.out);have HN:=ahF (λv=>HZ.out.set v);have HOK:=ahF (λv=>j8.SY k v);have HR2:=ahF (λv:Nat=>hR.set k v);have HE2:=ahF (λv:Value=>hb.setCell (p:=⟨w.heap.size,k,none⟩) (bd _) v);clear ho hR hb j8;subst e1;by_cases Qj:k<l
   .have uD:k<L.length:=by have:=HL.out;omega
    obtain⟨bb,bo,e2,_,c2⟩:=HYc.out uD;subst e2;rw[<-HYg.out uD]at c2;generalize L.getD k 0=b at *
    clear HYc HYg HYn uD;have HA:=ahF (λw=>Co a b q w lN oK hq);go_wp2_with fail;refine(HA.out _).mono ?_;rintro e w1 ⟨rfl,rfl⟩;go_wp2;go_roundw
    case rel=>
     exact⟨k+1,(a+b+q)/4294967296,O.set k ((a+b+q)%4294967296),aC,by go_num,rfl,aC,by rw[cX];exact HO.out,HOK.out _,HN.out _,HS.out,HR2.out _,HE2.out _⟩
    case measure=>simp[intOf];omega
   .rw [HYn.out (by have:=HL.out;omega)]at HS;clear HYc HYg HYn oK HY;have HA:=ahF (λw=>Co a 0 q w lN aE hq);go_wp2_with fail;refine(HA.out _).mono ?_;rintro e w1 ⟨rfl,rfl⟩;go_wp2;go_roundw
    case rel=>
     exact⟨k+1,(a+0+q)/4294967296,O.set k ((a+0+q)%4294967296),aC,by go_num,rfl,aC,by rw[cX];exact HO.out,HOK.out _,HN.out _,HS.out,HR2.out _,HE2.out _⟩
    case measure=>simp[intOf];omega
  .obtain rfl:k=m:= aC ;have ho:=HZ.out.at (by have:=HO.out;omega)
   have c4:=hR.frozen k;have FH:=hR.cell ho;have HF:=ahF (show val (O.set k q)=val L+val M by
    have h:=M3 (c:=q) ho;rw[bW,bZ aC,cV aC,cA,bL,HV.out,show M.take k=M from cG (by rw[HM.out];exact bd _),show L.take k=L from cG (by rw[<-HL.out];omega)]at h;omega)
   have HLn:=ahF (show(O.set k q).length=k+1 by rw[cX];exact HO.out);have HOK:Hid (iD (O.set k q)):=j8.set k aC;have HR2:=ahF (hR.set k q);have HE2:=ahF (λv:Value=>hb.setCell (p:=⟨w.heap.size,k,none⟩) (bd _) v);clear ho hR hb j8;go_wp2;go_ret;have tz:=HR2.out.sl HOK.out (by rw[HLn.out];omega);rw[HLn.out]at tz;exact⟨_,HF.out,HOK.out,HLn.out,_,_,(by rw[HLn.out];rfl),tz,HE2.out _⟩
def Ru(A B:Option Addr)(c d:Nat)(L M:List Nat)(w:World)(hs:Sl w A c L)(hr:Sl w B d M)(h1:L.length<=3000)(h2:M.length<=3000):
 Calls prog 360 #[.slice A L.length c,.slice B M.length d] w (Hv w (val L+val M) (max L.length M.length+1)):=by
 by_cases hc:M.length<=L.length
 .rw [Nat.max_eq_left hc];exact ach A B c d L M w hs hr h1 h2 hc
 .rw [Nat.max_eq_right aC];exact aci A B c d L M w hs hr h1 h2 aC 
def acg(A B:Option Addr)(c d:Nat)(L M:List Nat)(w:World)(hs:Sl w A c L)(hr:Sl w B d M)(h1:L.length<=3000)(h2:M.length<=3000):
 Calls prog 360 #[.slice A L.length c,.slice B M.length d] w (Mb w (val L+val M) (max L.length M.length+1)):=
 (Ru A B c d L M w hs hr h1 h2).mono λ_ _ ⟨T,a,b,c,d⟩=>⟨T,a,b,gn c,d⟩
def acj(A B:Option Addr)(c d:Nat)(L M:List Nat)(w:World)(tv:Sl w A c L)(uM:Sl w B d M)(h1:L.length<=3000)(_h2:M.length<=3000)(hle:val M<=val L):
 Calls prog 361 #[.slice A L.length c,.slice B M.length d] w (Mb w (val L-val M) L.length):=by
 have Jo:=ahF (λw (h:Sl w A c L)=>sM A c L w h);have Jp:=ahF (λw (h:Sl w B d M)=>sM B d M w h);have hs:=tv.rY;have hr:=uM.rY;have zV:=oD L;have Qa:=oD M;have C3:=nX L;have mL:=nX M;have JM:(ix M).length<=(ix L).length:=by
  apply bN;intro h;have:=Hc hs.ok (xv M) aC;omega
 unfold lu at C3 mL;rw[<-zV,<-Qa]at hle ⊢;clear zV Qa;obtain⟨n1,rE⟩:∃ n,n=L.length:=⟨_,rfl⟩
 obtain⟨n2,kz⟩:∃ n,n=M.length:=⟨_,rfl⟩
 rw[<-rE]at h1 C3 Jo ⊢;rw[<-kz]at _h2 mL Jp ⊢;have HTL:=ahF (Jo.out w tv);have HTM:=ahF (Jp.out w uM);clear Jo Jp tv uM rE kz;generalize ix L=L at *
 generalize ix M=M at *
 obtain⟨l,hl⟩:∃ l,l=L.length:=⟨_,rfl⟩
 obtain⟨m,hm⟩:∃ m,m=M.length:=⟨_,rfl⟩
 rw[<-hl]at C3 HTL JM;rw[<-hm]at mL HTM JM;have HL:=ahF hl;have HM:=ahF hm;have HLE:=ahF hle;clear hl hm hle;have oq:=DE l aC;have vG:=ahF (Rw.xf w l);go_enter func361,ntmps361;go_wp2_with fail;refine HTL.out.mono ?_;rintro e w1 ⟨rfl,rfl⟩;go_wp2_with fail;refine HTM.out.mono ?_;rintro e w1 ⟨rfl,rfl⟩;go_wp2;go_loopw [6,7,8,9,19] (λcy _ _ _ i wr=>∃ (k q:Nat) (O:List Nat),k<=l/\i = .int .i64 k/\cy = .int .u32 q/\q<=1/\O.length=l/\iD O/\sc O k/\val O+val (M.take k)=val (L.take k)+4294967296^k*q/\Rw wr w.heap.size O/\iz w wr) (λ_ _ _ _ i _=>l-(intOf i).toNat)
 case atStart=>
  exact⟨0,0,List.replicate l 0,bO _,rfl,rfl,aE,aH,iD.B2 _,sc.LY _,by simp[yZ],vG.out,iz.alloc _ _⟩
 case round=>
  obtain⟨k,q,O,hk,rfl,rfl,hq,hO,j8,hz,j9,hR,hb⟩:=hrel;have HV:=ahF j9;have HO:=ahF hO;clear j9 hO;have HZ:=ahF hz;clear hz;by_cases iA:k<l
  .have rC:k<L.length:=by have:=HL.out;omega
   obtain⟨ab,ao,e1,_,c1⟩:=(hs.below hb).kD rC;have lN:L[k]<4294967296:=hs.ok.get rC;have ho:=HZ.out.at (by have:=HO.out;omega)
   have c4:=hR.frozen k;have FH:=hR.cell ho;have HT:=ahF (y3 L k rC);have HY:=ahF (uc M k);have oK:M.getD k 0<4294967296:=hr.ok.getD k;have HYc:=ahF (λ(h:k<M.length)=>(hr.below hb).kD h);have HYg:=ahF (λ(h:k<M.length)=>xU h);have HYn:=ahF (λ(h:¬k<M.length)=>Bc h);obtain⟨a,ha⟩:∃ a,a=L[k]:=⟨_,rfl⟩
   rw[<-ha]at c1 lN HT;clear ha rC;have HN:=ahF (λv=>HZ.out.set v);have HOK:=ahF (λ(v:Nat) (h:v<4294967296)=>j8.set k h);have HR2:=ahF (λv:Nat=>hR.set k v);have HE2:=ahF (λv:Value=>hb.setCell (p:=⟨w.heap.size,k,none⟩) (bd _) v);have HO0:=ahF ho;clear ho hR hb j8;subst e1;by_cases Qj:k<m
   .have uD:k<M.length:=by have:=HM.out;omega
    obtain⟨bb,bo,e2,_,c2⟩:=HYc.out uD;subst e2;rw[<-HYg.out uD]at c2;generalize M.getD k 0=b at *
    clear HYc HYg HYn uD;have HS:=ahF (Tl HO0.out HV.out HT.out HY.out (CB a b q lN oK hq).1);have HD:=ahF (CB a b q lN oK hq).2;have HA:=ahF (λw=>Tj a b q w lN oK hq);generalize vt a b q=dd at *
    generalize zj a b q=bb' at *
    go_wp2_with fail;refine(HA.out _).mono ?_;rintro e w1 ⟨rfl,rfl⟩;go_wp2;go_roundw
    case rel=>
     exact⟨k+1,bb',O.set k dd,aC,by go_num,rfl,HD.out.1,by rw[cX];exact HO.out,HOK.out _ HD.out.2,HN.out _,HS.out,HR2.out _,HE2.out _⟩
    case measure=>simp[intOf];omega
   .rw [HYn.out (by have:=HM.out;omega)]at HY;clear HYc HYg HYn oK;have HS:=ahF (Tl HO0.out HV.out HT.out HY.out (CB a 0 q lN aE hq).1);have HD:=ahF (CB a 0 q lN aE hq).2;have HA:=ahF (λw=>Tj a 0 q w lN aE hq);generalize vt a 0 q=dd at *
    generalize zj a 0 q=bb' at *
    go_wp2_with fail;refine(HA.out _).mono ?_;rintro e w1 ⟨rfl,rfl⟩;go_wp2;go_roundw
    case rel=>
     exact⟨k+1,bb',O.set k dd,aC,by go_num,rfl,HD.out.1,by rw[cX];exact HO.out,HOK.out _ HD.out.2,HN.out _,HS.out,HR2.out _,HE2.out _⟩
    case measure=>simp[intOf];omega
  .obtain rfl:k=l:= aC ;have HF:=ahF (show val O=val L-val M by
    have h:=HV.out;rw[show L.take k=L from cG (by rw[HL.out];exact bd _),show M.take k=M from cG (by rw[<-HM.out];exact JM)]at h;exact(Tk j8 HO.out h HLE.out).2)
   go_wp2;go_ret;have tz:=hR.sl j8 (by rw[HO.out];omega);exact⟨_,HF.out,j8,by rw[HO.out];exact C3,_,_,(by rw[HO.out];rfl),tz,hb⟩
def TK{T:List Nat}{v:Nat}(h:iD T)(hv:val T=v):ix T=gV v:=by rw[pO h,hv]
def ab0(A B:Option Addr)(c d:Nat)(L M:List Nat)(w:World)(hs:Sl w A c L)(hr:Sl w B d M)(h1:L.length<=256)(h2:M.length<=256)(hf:(gV (val L+val M)).length<=256):
 Calls prog 321 #[.slice A L.length c,.slice B M.length d] w (AN w (gV (val L+val M)) 0):=by
 have H1:=ahF (λw (h:Sl w A c L) (k:Sl w B d M)=>acg A B c d L M w h k aC aC);generalize val L+val M=v at *
 go_enter func321,ntmps321;go_wp2_with fail;refine(QV _ A B _ c _ d _ false (Md _ _ _ _ _ _ _) (Me _ _ _ _ _ _ _) aN).mono ?_;rintro e w' ⟨rfl,rfl⟩;go_wp2_with fail;refine(H1.out _ (hs.alloc _) (hr.alloc _)).mono ?_;rintro e w' ⟨T,hv,hk,hl,A',c',rfl,ni,hb⟩;have ht:=ahF (TK hk hv);go_wp2_with fail;refine(DM A' c' T _ ni (by rw[ht.out];exact hf)).mono ?_;rintro e w'' ⟨A'',c'',rfl,pW,mo⟩;rw[ht.out]at pW ⊢;go_wp2;go_ret2;exact⟨A'',c'',rfl,pW,(iz.alloc _ _).trans (hb.trans mo)⟩
def acf(A B:Option Addr)(c d:Nat)(L M:List Nat)(w:World)(hs:Sl w A c L)(hr:Sl w B d M)(h1:L.length<=256)(h2:M.length<=256)(hle:val M<=val L):
 Calls prog 322 #[.slice A L.length c,.slice B M.length d] w (AN w (gV (val L-val M)) 0):=by
 have H1:=ahF (λw (h:Sl w A c L) (k:Sl w B d M)=>acj A B c d L M w h k aC aC hle);have HC:=ahF (λw (h:Sl w A c L) (k:Sl w B d M)=>Gi A B c d L M w h k aC aC);have hc:decide (jZ (val L) (val M)<0)=false:=by
  apply bg;unfold jZ;rw[aY aC];split<;>decide
 have hf:(gV (val L-val M)).length<=256:=bj (lH (eA _ _)) (abt hs.ok h1);generalize val L-val M=v at *
 generalize jZ (val L) (val M)=q at *
 clear hle;go_enter func322,ntmps322;go_wp2_with fail;refine(QV _ A B _ c _ d _ false (Md _ _ _ _ _ _ _) (Me _ _ _ _ _ _ _) aN).mono ?_;rintro e w' ⟨rfl,rfl⟩;go_wp2_with fail;refine(HC.out _ (hs.alloc _) (hr.alloc _)).mono ?_;rintro e w1 ⟨rfl,jW⟩;go_wp2_with fail;refine(H1.out _ ((hs.alloc _).below jW) ((hr.alloc _).below jW)).mono ?_;rintro e w' ⟨T,hv,hk,hl,A',c',rfl,ni,hb⟩;have ht:=ahF (TK hk hv);go_wp2_with fail;refine(DM A' c' T _ ni (by rw[ht.out];exact hf)).mono ?_;rintro e w'' ⟨A'',c'',rfl,pW,mo⟩;rw[ht.out]at pW ⊢;go_wp2;go_ret2;exact⟨A'',c'',rfl,pW,(iz.alloc _ _).trans (jW.trans (hb.trans mo))⟩
end Go.Proofs.YtkjkcjhacddojaaGreatDoor
namespace Go.Proofs.YtkjkcjhacddojaaGreatDoor.Fp
def s5(d:Dy):Dy:=if mN d then d else jt
def s6(d:Dy):Int:=if mN d then 0 else 9
def Na{d:Dy}(h:mN d):s5 d=d:=aZ h
def M9{d:Dy}(h:mN d):s6 d=0:=aZ h
def Ww{d:Dy}(h:¬mN d):s5 d=jt:=aY h
def Wv{d:Dy}(h:¬mN d):s6 d=9:=aY h
def Tn{a b:Dy}(ha:a.m≠0)(hb:b.m≠0):iN a b=iN b a:=by
 unfold iN;rw[aY ha,aY hb,aY hb,aY ha,Int.min_comm,Int.add_comm]
def jr(m:Nat)(e:Int)(p:Nat):Nat:=(max (max ((ib m:Int)-p) (-16384-e)) 0).toNat
def kp(m:Nat)(e:Int)(more:Bool)(p:Nat)(out:Bool):Nat:=
 m/2^jr m e p+if out=true/\(more=true\/m%2^jr m e p≠0)then 1 else 0
def lk(m:Nat)(e:Int)(more:Bool)(p:Nat)(out:Bool):Bool:=
 decide (kp m e more p out≠0)&&decide (16384<(ib (kp m e more p out):Int)+e+jr m e p)
def jB(neg:Bool)(m:Nat)(e:Int)(more:Bool)(p:Nat)(up:Bool):Dy:=
 if lk m e more p (neg != up)=true then(if(neg != up)=true then jt else canon neg (2^p-1) (16384-p))else canon neg (kp m e more p (neg != up)) (e+jr m e p)
def ju(neg:Bool)(m:Nat)(e:Int)(more:Bool)(p:Nat)(up:Bool):Int:=
 if(lk m e more p (neg != up)&&(neg != up))=true then 9 else 0
def Xc{N d k:Nat}:(N/2^d%2^k≠0\/N%2^d≠0)↔N%2^(d+k)≠0:=by
 have e1:N%2^(d+k)=N%2^d+2^d*(N/2^d%2^k):=by rw[bk,Nat.mod_mul]
 have hp:0<2^d:=bn aE;rw[e1];constructor
 .rintro (h|h)
  .have:=fl hp (dM h);omega
  .omega
 .intro h;by_cases h1:N%2^d=0
  .left;intro h2;rw[h1,h2,cA]at h;exact h rfl
  .exact .inr h1
def WO{N:Nat}{E:Int}{more:Bool}{d p:Nat}(hb:p<ib (N/2^d)):
 jr (N/2^d) (E+d) p+d=jr N E p /\
 ∀ out,kp (N/2^d) (E+d) (more||decide (N%2^d≠0)) p out=kp N E more p out:=by
 have hN:d<ib N:=by
  apply bN;intro h;have h1:N<2^d:=kV.1 aC;rw[cV h1]at hb;simp[ib]at hb
 have Jy:ib (N/2^d)+d=ib N:=by
  have h0:N/2^d≠0:=by intro h;rw[h]at hb;simp[ib]at hb
  have h1:=rZ h0;have h2:=qH (N/2^d);obtain⟨j,hj⟩:∃ j,ib (N/2^d)=j+1:=⟨ib (N/2^d)-1,aC⟩
  rw[hj]at h1 h2 ⊢;rw[eo,cY (bn aE),<-bk]at h1;rw[cw (bn aE),<-bk]at h2;have:=wH (k:=j+d) h1 (by rw[(aC:j+d+1=j+1+d)];exact h2);omega
 have hk:jr (N/2^d) (E+d) p+d=jr N E p:=by
  unfold jr;omega
 refine⟨hk,λout=>?_⟩;unfold kp;rw[<-hk];generalize jr (N/2^d) (E+d) p=k;have JA:=@Xc N d k;rw[(aC:k+d=d+k),dt,<-bk];congr 1;have:((more||decide (N%2^d≠0))=true\/N/2^d%2^k≠0)↔(more=true\/N%2^(d+k)≠0):=by
  rw[<-JA];simp only[eW,cI];constructor
  .rintro ((h|h)|h)
   .exact .inl h
   .exact .inr (.inr h)
   .exact .inr (.inl h)
  .rintro (h|h|h)
   .exact .inl (.inl h)
   .exact .inr h
   .exact .inl (.inr h)
 by_cases ho:out=true
 .simp only[ho,true_and,this]
 .rw [aY (λh=>ho h.1),aY (λh=>ho h.1)]
def E8{N:Nat}{E:Int}{more:Bool}{d p:Nat}(neg up:Bool)(hb:p<ib (N/2^d)):
 jB neg (N/2^d) (E+d) (more||decide (N%2^d≠0)) p up=jB neg N E more p up /\
 ju neg (N/2^d) (E+d) (more||decide (N%2^d≠0)) p up=ju neg N E more p up:=by
 obtain⟨hk,hq⟩:=WO (more:=more) (E:=E) hb;have hq:=hq (neg != up);have e1:E+(d:Int)+(jr (N/2^d) (E+d) p:Int)=E+(jr N E p:Int):= aC ;have e2:(ib (kp N E more p (neg != up)):Int)+(E+(d:Int))+(jr (N/2^d) (E+d) p:Int)=(ib (kp N E more p (neg != up)):Int)+E+(jr N E p:Int):= aC ;have ho:lk (N/2^d) (E+d) (more||decide (N%2^d≠0)) p (neg != up)=lk N E more p (neg != up):=by
  unfold lk;rw[hq,e2]
 unfold jB ju;rw[hq,ho,e1];exact⟨rfl,rfl⟩
def Is(s:Bool)(m:Nat)(e:Int)(j:Nat):canon s (m*2^j) (e-j)=canon s m e:=by
 by_cases h0:m=0
 .subst h0;rw[cH];rfl
 .have h1:m*2^j≠0:=dB h0 (dW (bn aE));obtain⟨q,hq,he⟩:=zo h0;have hc:jq (m*2^j)=jq m+j:=by
   conv=>lhs;rw[he,bu,<-bk]
   exact wK hq _
  unfold canon;rw[aY h1,aY h0,hc,bk,bB (2^jq m),<-dt,dI _ (bn aE)];rw[(aC:e-(j:Int)+((jq m+j:Nat):Int)=e+(jq m:Int))]
def WN(neg up:Bool)(N:Nat)(E:Int)(j p:Nat)(h0:N≠0):
 jB neg (N*2^j) (E-j) false p up=jB neg N E false p up/\ju neg (N*2^j) (E-j) false p up=ju neg N E false p up:=by
 have Jy:=qh h0 j;by_cases hk:jr N E p=0
 .
  have vJ:jr (N*2^j) (E-j) p<=j:=by unfold jr at hk ⊢;rw[Jy];omega
  obtain⟨i,hi⟩:∃ i,j=i+jr (N*2^j) (E-j) p:=⟨j-jr (N*2^j) (E-j) p,aC⟩
  generalize hK:jr (N*2^j) (E-j) p=k at *
  have hdiv:N*2^j/2^k=N*2^i:=by
   rw[hi,bk,<-bu,dI _ (bn aE)]
  have JP:N*2^j%2^k=0:=by
   rw[hi,bk,<-bu];exact fP _ _
  have hq:∀ out,kp (N*2^j) (E-j) false p out=N*2^i:=λout=>by
   unfold kp;rw[hK,hdiv,JP];simp
  have tu:∀ out,kp N E false p out=N:=λout=>by
   unfold kp;rw[hk];simp[dJ]
  have kG:N*2^i≠0:=dB h0 (dW (bn aE));have ho:∀ out,lk (N*2^j) (E-j) false p out=lk N E false p out:=λout=>by
   unfold lk;rw[hq,tu,hK,hk,qh h0 i];simp only[cP,kG,h0,ew,fF,e9];rw[ahe];omega
  unfold jB ju;rw[ho,hq,tu,hK,hk];rw[(aC:E-(j:Int)+k=E+((0:Nat):Int)-(i:Int)),Is];exact⟨rfl,rfl⟩
 .have vJ:jr (N*2^j) (E-j) p=jr N E p+j:=by unfold jr at hk ⊢;rw[Jy];omega
  have hq:∀ out,kp (N*2^j) (E-j) false p out=kp N E false p out:=λout=>by
   unfold kp;rw[vJ,bk,bB (2^jr N E p),<-dt,dI _ (bn aE),bB N,Nat.mul_mod_mul_left];have:(2^j*(N%2^jr N E p)≠0)↔(N%2^jr N E p≠0):=by
    rw[cP,cP,Nat.mul_eq_zero];have:=bn (n:=j) (aE:0<2);omega
   simp only[this]
  have ho:∀ out,lk (N*2^j) (E-j) false p out=lk N E false p out:=λout=>by
   unfold lk;rw[hq,vJ];congr 2;rw[eq_iff_iff];omega
  unfold jB ju;rw[ho,hq,vJ];rw[(aC:E-(j:Int)+((jr N E p+j:Nat):Int)=E+(jr N E p:Int))];exact⟨rfl,rfl⟩
def jk(d:Dy)(p:Nat)(up:Bool):Dy:=jB d.neg d.m d.e false p up
def jf(d:Dy)(p:Nat)(up:Bool):Int:=ju d.neg d.m d.e false p up
def SA(s up:Bool)(m:Nat)(e:Int)(p:Nat)(h0:m≠0):
 jk (canon s m e) p up=jB s m e false p up/\jf (canon s m e) p up=ju s m e false p up:=by
 have hm:=CE h0;have hq:m/2^jq m≠0:=by have:=BR h0;omega
 have h:=WN s up (m/2^jq m) (e+jq m) (jq m) p hq;rw[hm,(aC:e+(jq m:Int)-(jq m:Int)=e)]at h;unfold jk jf canon;rw[aY h0];exact⟨h.1.symm,h.2.symm⟩
def AX{s:Bool}{m:Nat}{e:Int}(h0:m≠0):(ib (canon s m e).m:Int)+(canon s m e).e=ib m+e/\e<=(canon s m e).e/\(canon s m e).m≠0/\ib (canon s m e).m<=ib m:=by
 have hm:=CE h0;have hq:m/2^jq m≠0:=by have:=BR h0;omega
 have h:=qh hq (jq m);rw[hm]at h;unfold canon;rw[aY h0];simp only;exact⟨aC,aC,hq,aC⟩
def NK(m:Nat)(e:Int)(p:Nat):m/2^jr m e p<2^p:=by
 rw[cw (bn aE),<-bk];refine kV.1 ?_;unfold jr;omega
def Wk{s:Bool}{q p:Nat}{e:Int}(h:q<=2^p)(hp:1<=p):ib (canon s q e).m<=p:=by
 by_cases h0:q=0
 .subst h0;exact bO _
 .by_cases h1:q=2^p
  .have hc:jq q=p:=by rw[h1];have:=wK (m:=1) rfl p;rwa[bT]at this
   unfold canon;rw[aY h0,hc,h1,Nat.div_self (bn aE)];exact bj (kV.2 (show 1<2^1 by decide)) hp
  .exact bj (AX h0).2.2.2 (kV.2 aC)
def Nq(m:Nat)(e:Int)(more:Bool)(p:Nat)(out:Bool):kp m e more p out<=2^p:=by
 have:=NK m e p;unfold kp;split<;>omega
def q6(neg:Bool)(m:Nat)(e:Int)(more:Bool)(p:Nat)(up:Bool)(hp:1<=p)(gY:p<=4096):(jB neg m e more p up).gX:=by
 unfold jB;by_cases ho:lk m e more p (neg != up)=true
 .rw [aZ ho];by_cases hn:(neg != up)=true
  .rw [aZ hn];exact qe
  .rw [aY hn];have uJ:2<=2^p:=by
    have:=bH (n:=2) aE hp;omega
   have h0:2^p-1≠0:= aC ;have hb:ib (2^p-1)=p:=by
    obtain⟨j,rfl⟩:∃ j,p=j+1:=⟨p-1,aC⟩
    have h2:2^(j+1)=2^j*2:=bw _ _;have h3:=bn (n:=j) (aE:0<2);exact wH aC aC 
   obtain⟨h1,h2,h3,h4⟩:=AX (s:=neg) (e:=(16384:Int)-p) h0;have h5:=np h3;exact⟨sf _ _ _,.inr ⟨aC,aC,aC,aC⟩⟩
 .rw [aY ho];refine⟨sf _ _ _,?_⟩;by_cases h0:kp m e more p (neg != up)=0
  .rw [h0];exact .inl rfl
  .have hq:=Wk (s:=neg) (e:=e+(jr m e p:Int)) (Nq m e more p (neg != up)) hp;obtain⟨h1,h2,h3,h4⟩:=AX (s:=neg) (e:=e+(jr m e p:Int)) h0;have h5:=np h3;have h6:-16384<=e+(jr m e p:Int):=by unfold jr;omega
   unfold lk at ho;simp only[cP,h0,ew,fF,e9,cI]at ho;exact .inr ⟨aC,aC,aC,aC⟩
def Cy{neg:Bool}{m:Nat}{e:Int}{more:Bool}{p:Nat}{up:Bool}:ju neg m e more p up=0↔¬(lk m e more p (neg != up)=true/\(neg != up)=true):=by
 unfold ju;cases lk m e more p (neg != up)<;>cases(neg != up)<;>simp
def Nr(neg:Bool)(m:Nat)(e:Int)(more:Bool)(p:Nat)(h1:ju neg m e more p false=0)(h2:ju neg m e more p true=0):
 jj (jB neg m e more p false) (jB neg m e more p true)<=0:=by
 have pn:¬lk m e more p true=true:=by
  cases neg
  .rw [Cy]at h2;simpa using h2
  .rw [Cy]at h1;simpa using h1
 have hle:kp m e more p false<=kp m e more p true:=by
  unfold kp;simp only[bA,false_and,bq];omega
 have lj:¬lk m e more p false=true:=by
  unfold lk at pn ⊢;intro h;apply pn;simp only[bS,cI]at h ⊢;have:=ui hle;exact⟨aC,aC⟩
 have key:∀ o:Bool,¬lk m e more p o=true:=λo=>by cases o;exact lj;exact pn
 unfold jB;rw[aY (key _),aY (key _)];rw[Ct (k:=e+(jr m e p:Int)) (xF (cj _)) (xF (cj _)),Am (cj _),Am (cj _)];rw[show(e+(jr m e p:Int)-(e+(jr m e p:Int))).toNat=0 by omega];simp only[cB,ch];unfold vq;cases neg
 .simp only[bA,bq,Bool.false_bne];split
  .decide
  .split<;>omega
 .simp only[bD,Bool.true_bne,eu,eN];split
  .decide
  .split<;>omega
def lL(b:Dy)(low:Int):Nat:=if low<=b.e then b.m*2^(b.e-low).toNat else b.m/2^(low-b.e).toNat
def mu(b:Dy)(low:Int):Bool:=decide (¬low<=b.e)&&decide (b.m%2^(low-b.e).toNat≠0)
def Tm{a b:Dy}(ha:a.mf)(hb:b.mf){K:Int}(h1:K<=a.e)(h2:K<=b.e):iN a b=nL (a.num K+b.num K) K:=by
 refine NW (k:=K) (xM ha hb) (sf _ _ _) (EH (.inr h1) (.inr h2)) (HI (cj _)) ?_;rw[GY (.inr h1) (.inr h2),KL (cj _),show(K-K).toNat=0 by omega];simp
def GN{a b:Dy}(ha:a.mf)(hb:b.mf){K:Int}(h1:K<=a.e)(h2:K<=b.e)(s:Bool)(Z:Nat)(h0:Z≠0)(hz:a.num K+b.num K=if s then -(Z:Int)else(Z:Int))(p:Nat)(up:Bool):
 jk (iN a b) p up=jB s Z K false p up/\jf (iN a b) p up=ju s Z K false p up:=by
 have:iN a b=canon s Z K:=by rw[Tm ha hb h1 h2,hz,EZ]
 rw[this];exact SA s up Z K p h0
def Gp(d:Dy)(K:Int):d.num K=if d.neg then -(d.jD K:Int)else(d.jD K:Int):=rfl
section
variable {a b:Dy} {low:Int} {p:Nat}
def Ls(a0:a.m≠0)(b0:b.m≠0)(h1:low<=a.e)(h2:low<=a.ij-p-8)(h3:low<=b.e\/3<=a.ij-b.ij):
 ∃ (K:Int) (d:Nat),K<=a.e/\K<=b.e/\low=K+d/\a.jD K=a.m*2^(a.e-low).toNat*2^d/\lL b low=b.jD K/2^d/\(mu b low=decide (b.jD K%2^d≠0)) /\
  (d=0\/(p+8<=ib (a.m*2^(a.e-low).toNat)/\ib (b.jD K/2^d)+3<=ib (a.m*2^(a.e-low).toNat))):=by
 have ta:a.ij=ib a.m+a.e:=by unfold Dy.ij;rw[aY a0]
 have tb:b.ij=ib b.m+b.e:=by unfold Dy.ij;rw[aY b0]
 have hx:=qh a0 (a.e-low).toNat
 by_cases h:low<=b.e
 .refine ⟨low,0,h1,h,aC,by unfold Dy.jD;simp,?_,?_,.inl rfl⟩
  .unfold lL Dy.jD;rw[aZ h];simp
  .unfold mu;simp[h,dJ]
 .refine ⟨b.e,(low-b.e).toNat,aC,cj _,aC,?_,?_,?_,.inr ⟨aC,?_⟩⟩
  .unfold Dy.jD;rw[bu,<-bk];congr 2;omega
  .unfold lL Dy.jD;rw[aY h];simp
  .unfold mu Dy.jD;simp[h]
  .have hm:b.jD b.e=b.m:=by unfold Dy.jD;simp
   rw[hm];have hd:ib (b.m/2^(low-b.e).toNat)<=ib b.m-(low-b.e).toNat:=by
    rw[kV,cw (bn aE),<-bk];exact kV.1 aC 
   have:=h3.resolve_left h;omega
def aeq(ha:a.mf)(hb:b.mf)(a0:a.m≠0)(b0:b.m≠0)(h1:low<=a.e)(h2:low<=a.ij-p-8)(h3:low<=b.e\/3<=a.ij-b.ij)(hs:a.neg=b.neg)(up:Bool):
 jB a.neg (a.m*2^(a.e-low).toNat+lL b low) low (mu b low) p up=jk (iN a b) p up/\ju a.neg (a.m*2^(a.e-low).toNat+lL b low) low (mu b low) p up=jf (iN a b) p up:=by
 obtain⟨K,d,k1,k2,rfl,hx,hy,hl,hd⟩:=Ls (p:=p) a0 b0 h1 h2 h3;generalize a.m*2^(a.e-(K+d)).toNat=x at *
 have ma:=xg a0 K;have mb:=xg b0 K;obtain⟨r1,r2⟩:=GN ha hb k1 k2 a.neg (a.jD K+b.jD K) aC (by
  rw[Gp a,Gp b,<-hs];cases a.neg<;>simp<;>omega) p up
 rw[r1,r2,hy,hl];have e1:(a.jD K+b.jD K)/2^d=x+b.jD K/2^d:=by
  rw[hx,bB x,gQ (bn aE)]
 have e2:(a.jD K+b.jD K)%2^d=b.jD K%2^d:=by
  rw[hx,bB x,fu]
 rcases hd with rfl|⟨yb,yd⟩
 .simp only[cB,fc,dJ]at e1 ⊢;rw[<-e1];have:K+((0:Nat):Int)=K:= aC ;rw[this];simp
 .have hb:p<ib ((a.jD K+b.jD K)/2^d):=by
   rw[e1];have:=ui (aC:x<=x+b.jD K/2^d);omega
  have h:=E8 (E:=K) (more:=false) a.neg up hb;rw[e1,e2,eD]at h;exact h
def afm{x N D:Nat}(hD:0<D)(h:N<=x*D):(x*D-N)/D=x-(N/D+if N%D≠0 then 1 else 0)/\((x*D-N)%D≠0↔N%D≠0)/\N/D+(if N%D≠0 then 1 else 0)<=x:=by
 have hN:=cC N D;have hr:=bC N hD;generalize N/D=q at *
 generalize N%D=r at *
 by_cases h0:r=0
 .subst h0;simp only[cP,gT,bq,bL]at hN ⊢;have hq:q<=x:=by
   apply bN;intro h';have:=bI D (aC:x+1<=q);rw[bR,bB q]at this;omega
  have e:x*D-N=(x-q)*D:=by rw[Nat.sub_mul,<-hN,bB q]
  rw[e,dI _ hD,fP];exact⟨rfl,aH,hq⟩
 .have hq:q+1<=x:=by
   apply bN;intro h';have:=bI D (aC:x<=q);rw[bB q]at this;omega
  have e:x*D-N=(D-r)+D*(x-(q+1)):=by
   have h1:D*(x-(q+1))=D*x-D*(q+1):=Nat.mul_sub _ _ _;have h2:D*(q+1)<=D*x:=cF _ hq;rw[bJ,ch]at h1 h2;rw[bB x];omega
  have iA:D-r<D:= aC ;rw[e,eJ _ _ hD,cV iA,dR,bZ iA];simp only[cP,h0,ew,bD];exact⟨aC,⟨λ_=>trivial,λ_=> aC⟩,hq⟩
def aep(ha:a.mf)(hb:b.mf)(a0:a.m≠0)(b0:b.m≠0)(h1:low<=a.e)(h2:low<=a.ij-p-8)(h3:low<=b.e\/3<=a.ij-b.ij)(hs:a.neg≠b.neg)(up:Bool):
  (a.m*2^(a.e-low).toNat<lL b low+(if mu b low=true then 1 else 0) ->
   jB (!a.neg) (lL b low+(if mu b low=true then 1 else 0)-a.m*2^(a.e-low).toNat) low false p up=jk (iN a b) p up/\ju (!a.neg) (lL b low+(if mu b low=true then 1 else 0)-a.m*2^(a.e-low).toNat) low false p up=jf (iN a b) p up) /\
  (lL b low+(if mu b low=true then 1 else 0)<=a.m*2^(a.e-low).toNat ->
   (a.m*2^(a.e-low).toNat-(lL b low+(if mu b low=true then 1 else 0))=0/\mu b low=false->iN a b=jt) /\
   (¬(a.m*2^(a.e-low).toNat-(lL b low+(if mu b low=true then 1 else 0))=0/\mu b low=false) ->
    jB a.neg (a.m*2^(a.e-low).toNat-(lL b low+(if mu b low=true then 1 else 0))) low (mu b low) p up=jk (iN a b) p up/\ju a.neg (a.m*2^(a.e-low).toNat-(lL b low+(if mu b low=true then 1 else 0))) low (mu b low) p up=jf (iN a b) p up)):=by
 obtain⟨K,d,k1,k2,rfl,hx,hy,hl,hd⟩:=Ls (p:=p) a0 b0 h1 h2 h3;generalize a.m*2^(a.e-(K+d)).toNat=x at *
 have ma:=xg a0 K;have mb:=xg b0 K;have yi:a.num K+b.num K=if a.neg then(b.jD K:Int)-a.jD K else(a.jD K:Int)-b.jD K:=by
  rw[Gp a,Gp b];cases h:a.neg<;>cases h':b.neg<;>simp[h,h']at hs ⊢ <;> omega
 rw[hy,hl];rcases hd with rfl|⟨yb,yd⟩
 .
  rw[cB,ch]at hx;have e0:K+((0:Nat):Int)=K:= aC ;simp only[cB,fc,dJ,cP,gT,decide_false,bA,bq,bL,e0,and_true];refine⟨λiA=>?_,λhle=>⟨λhz=>?_,λhz=>?_⟩⟩
  .obtain ⟨r1,r2⟩:=GN ha hb k1 k2 (!a.neg) (b.jD K-x) aC (by
    rw[yi,hx];cases a.neg<;>simp<;>omega) p up
   exact⟨r1.symm,r2.symm⟩
  .rw [Tm ha hb k1 k2,yi,hx];have:x=b.jD K:= aC ;rw[this];cases a.neg<;>simp[nL,canon,jt]
  .obtain ⟨r1,r2⟩:=GN ha hb k1 k2 a.neg (x-b.jD K) aC (by
    rw[yi,hx];cases a.neg<;>simp<;>omega) p up
   exact⟨r1.symm,r2.symm⟩
 .
  have hD:=bn (n:=d) (aE:0<2);have ny:x≠0:=by intro h;rw[h]at yb;simp[ib]at yb
  obtain⟨j,hj⟩:∃ j,ib x=j+3:=⟨ib x-3,aC⟩
  have qF:=rZ ny;rw[hj,(aC:j+3-1=j+2),bk]at qF;have hyl:b.jD K/2^d<2^j:=kV.1 aC;have hle:b.jD K<=x*2^d:=by
   have h5:=cC (b.jD K) (2^d);have h6:=bC (b.jD K) hD;have h7:2^d*(b.jD K/2^d+1)<=2^d*x:=cF _ aC;rw[bJ,ch,bB _ x]at h7;omega
  obtain⟨e1,e2,e3⟩:=afm hD hle;have hc:(if decide (b.jD K%2^d≠0)=true then 1 else 0)=(if b.jD K%2^d≠0 then 1 else 0):=by simp only[cI]
  rw[hc];have wR:p<ib (x-(b.jD K/2^d+if b.jD K%2^d≠0 then 1 else 0)):=by
   have h8:2^(j+1)<=x-(b.jD K/2^d+if b.jD K%2^d≠0 then 1 else 0):=by
    rw[bw];have h9:2^j*2^2<=x:=qF;have sw:=bn (n:=j) (aE:0<2);split<;>omega
   have:=uR.2 h8;omega
  refine⟨λiA=> aC,λ_=>⟨λhz=>?_,λ_=>?_⟩⟩
  .exfalso;rw[hz.1]at wR;simp[ib]at wR
  .obtain ⟨r1,r2⟩:=GN ha hb k1 k2 a.neg (a.jD K-b.jD K) (by
    intro h;rw[<-hx,h,Nat.zero_div]at e1;rw[<-e1]at wR;simp[ib]at wR) (by
    rw[yi];cases a.neg<;>simp<;>omega) p up
   rw[r1,r2,hx];rw[<-e1]at wR ⊢;have h:=E8 (E:=K) (more:=false) a.neg up wR;rw[eD]at h;have e4:decide ((x*2^d-b.jD K)%2^d≠0)=decide (b.jD K%2^d≠0):=ahe.2 e2;rw[e4]at h;exact h
end
def iO(m:Nat)(e:Int)(p:Nat):Int:=max (e+ib m-p) (-16384)
def mC(m:Nat)(e:Int)(more:Bool)(p:Nat)(up:Bool):Nat:=
 if iO m e p<=e then m*2^(e-iO m e p).toNat else m/2^(iO m e p-e).toNat+if(up&&(more||decide (m%2^(iO m e p-e).toNat≠0)))=true then 1 else 0
def Np{m:Nat}{e:Int}{more:Bool}{p:Nat}(up:Bool)(h0:m≠0)(hm:more=true->p<ib m)(hp:1<=p):
 (ib (mC m e more p up):Int)+iO m e p<=16384/\jB false m e more p up=canon false (mC m e more p up) (iO m e p)/\ju false m e more p up=0 \/
 16384<(ib (mC m e more p up):Int)+iO m e p/\((up=true/\jB false m e more p up=jt/\ju false m e more p up=9)\/(up=false/\jB false m e more p up=canon false (2^p-1) (16384-p)/\ju false m e more p up=0)):=by
 have pn:(false != up)=up:=by cases up<;>rfl
 by_cases hU:iO m e p<=e
 .
  have hmf:more=false:=by
   cases JQ:more with
   |false=>rfl
   |true=>have:=hm JQ;unfold iO at hU;omega
  subst hmf;have hK:jr m e p=0:=by unfold iO at hU;unfold jr;omega
  have hQ:kp m e false p up=m:=by unfold kp;rw[hK];simp[dJ]
  have hP:mC m e false p up=m*2^(e-iO m e p).toNat:=by unfold mC;rw[aZ hU]
  have hb:ib (mC m e false p up)=ib m+(e-iO m e p).toNat:=by rw[hP];exact qh h0 _
  have hc:canon false (mC m e false p up) (iO m e p)=canon false m e:=by
   rw[hP];have:=Is false m e (e-iO m e p).toNat
   rwa[(aC:e-((e-iO m e p).toNat:Int)=iO m e p)]at this
  have hO:lk m e false p up=decide (16384<(ib m:Int)+e):=by
   unfold lk;rw[hQ,hK];simp[h0]
  by_cases rF:16384<(ib m:Int)+e
  .refine .inr ⟨aC,?_⟩;unfold jB ju;rw[pn,hO,bh rF];cases up
   .exact .inr ⟨rfl,rfl,rfl⟩
   .exact .inl ⟨rfl,rfl,rfl⟩
  .refine .inl ⟨aC,?_,?_⟩
   .unfold jB;rw[pn,hO,bg rF,aY aE,hQ,hK,hc];simp
   .unfold ju;rw[pn,hO,bg rF];simp
 .have hK:jr m e p=(iO m e p-e).toNat:=by unfold iO at hU ⊢;unfold jr;omega
  have hQ:kp m e more p up=mC m e more p up:=by
   unfold kp mC;rw[aY hU,hK];congr 1;cases up<;>cases more<;>simp
  have heK:e+(jr m e p:Int)=iO m e p:=by rw[hK];omega
  have kG:16384<(ib (mC m e more p up):Int)+iO m e p->mC m e more p up≠0:=by
   intro h hz;have pK:m/2^(iO m e p-e).toNat=0:=by
    unfold mC at hz;rw[aY hU]at hz;exact(Nat.add_eq_zero_iff.1 hz).1
   have iA:m<2^(iO m e p-e).toNat:=by
    rcases Nat.div_eq_zero_iff.1 pK with h|h
    .exact absurd h (dW (bn aE))
    .exact h
   have:=kV.2 iA;rw[hz,qO]at h;have re:=np h0;unfold iO at h hU this;omega
  have hO:lk m e more p up=decide (16384<(ib (mC m e more p up):Int)+iO m e p):=by
   unfold lk;rw[hQ,show(ib (mC m e more p up):Int)+e+(jr m e p:Int)=(ib (mC m e more p up):Int)+iO m e p by omega];by_cases rF:16384<(ib (mC m e more p up):Int)+iO m e p
   .simp [kG rF]
   .simp [rF]
  by_cases rF:16384<(ib (mC m e more p up):Int)+iO m e p
  .refine .inr ⟨rF,?_⟩;unfold jB ju;rw[pn,hO,bh rF];cases up
   .exact .inr ⟨rfl,rfl,rfl⟩
   .exact .inl ⟨rfl,rfl,rfl⟩
  .refine .inl ⟨aC,?_,?_⟩
   .unfold jB;rw[pn,hO,bg rF,aY aE,hQ,heK]
   .unfold ju;rw[pn,hO,bg rF];simp
def No{m:Nat}{e:Int}{more:Bool}{p:Nat}{up:Bool}(h0:m≠0):ib (mC m e more p up)<=p+1:=by
 unfold mC;split
 .rename_i h;rw[qh h0];unfold iO at h ⊢;omega
 .rename_i h;have h1:m/2^(iO m e p-e).toNat<2^p:=by
   rw[cw (bn aE),<-bk];refine kV.1 ?_;unfold iO at h ⊢;omega
  refine kV.2 ?_;rw[bw];have:0<2^p:=bn aE;split<;>omega
def nA{m k:Nat}(h:ib m<=32*k):(gV m).length<=k:=by
 refine tG ?_;rw[qV];exact kV.1 h
def zg{m k:Nat}(h:(gV m).length<=k):ib m<=32*k:=by
 have:=DC h;rw[qV]at this;exact kV.2 this
def NM{m n:Nat}(h:ib m<=n):m/2^n=0/\m%2^n=m:=by
 have:=kV.1 h;exact⟨cV this,bZ this⟩
def QZ(m n:Nat):(jZ (m/2^n*2^n) m != 0)=decide (m%2^n≠0):=by
 have h:=cC m (2^n);rw[bB]at h;unfold jZ;by_cases h0:m%2^n=0
 .rw [aY aC,aY aC];simp[h0]
 .rw [aZ aC];simp[h0]
def Nt(neg:Bool)(m:Nat)(e:Int)(more:Bool)(p:Nat)(up:Bool):
 ju neg m e more p up=ju false m e more p (up != neg) /\
 (ju false m e more p (up != neg)=0->neg=true->jv (jB false m e more p (up != neg))=jB neg m e more p up) /\
 ((ju false m e more p (up != neg)≠0\/neg=false)->jB false m e more p (up != neg)=jB neg m e more p up):=by
 have pn:(false != (up != neg))=(neg != up):=by cases up<;>cases neg<;>rfl
 have hE:ju neg m e more p up=ju false m e more p (up != neg):=by unfold ju;rw[pn]
 refine⟨hE,λh hn=>?_,λh=>?_⟩
 .have h':=Cy.1 h;rw[pn]at h';have neg_canon:∀ q u,jv (canon false q u)=canon true q u:=by
   intro q u;unfold canon jv;by_cases hq:q=0
   .simp [hq]
   .rw [aY hq,aY hq];have:=BR hq;have h0:q/2^jq q≠0:= aC ;simp[h0]
  subst hn;unfold jB;rw[pn];by_cases ho:lk m e more p (true != up)=true
  .have hu:(true != up)=false:=by
    cases hq:(true != up)with
    |false=>rfl
    |true=>exact absurd ⟨ho,hq⟩ h'
   rw[aZ ho,aZ ho,hu];simp only[bA,bq];exact neg_canon _ _
  .rw [aY ho,aY ho];exact neg_canon _ _
 .rcases h with h|h
  .have h1:lk m e more p (neg != up)=true/\(neg != up)=true:=by
    by_cases q:lk m e more p (neg != up)=true/\(neg != up)=true
    .exact q
    .exact absurd (Cy.2 (by rw[pn];exact q)) h
   unfold jB;rw[pn,aZ h1.1,aZ h1.2,aZ h1.1,aZ h1.2]
  .subst h;cases up<;>rfl
def iS(a b:Dy)(p:Nat):Int:=if a.ij-b.ij<=2 then min (min a.e (a.ij-p-8)) b.e else min a.e (a.ij-p-8)
def mG(a b:Dy)(p:Nat):Nat:=a.m*2^(a.e-iS a b p).toNat
def lK(a b:Dy)(p:Nat):Nat:=lL b (iS a b p)+if(a.neg != b.neg&&mu b (iS a b p))=true then 1 else 0
def nV(a b:Dy)(p:Nat):Bool:=(a.neg != b.neg)&&decide (mG a b p<lK a b p)
def kT(a b:Dy)(p:Nat):Nat:=if a.neg=b.neg then mG a b p+lK a b p else if mG a b p<lK a b p then lK a b p-mG a b p else mG a b p-lK a b p
def me(a b:Dy)(p:Nat):Bool:=mu b (iS a b p) && !nV a b p
def Lj(a b:Dy)(p:Nat):iS a b p<=a.e/\iS a b p<=a.ij-p-8/\(iS a b p<=b.e\/3<=a.ij-b.ij):=by
 unfold iS;split<;>omega
def Ek{a:Dy}(a0:a.m≠0):a.ij=ib a.m+a.e:=by unfold Dy.ij;rw[aY a0]
structure Ux(a b:Dy)(p:Nat):Prop where
 lo:-17000<=iS a b p
 hi:iS a b p<=16384
 x:ib (mG a b p)<=4100
 x0:mG a b p≠0
 sh:(a.e-iS a b p).toNat<=60000
 sh2:(b.e-iS a b p).toNat<=60000
 sh3:(iS a b p-b.e).toNat<=60000
 y:ib (lL b (iS a b p))<=4100
 l:mu b (iS a b p)=true->p+8<=ib (mG a b p)/\ib (lL b (iS a b p))+3<=ib (mG a b p)
def G3{a b:Dy}{p:Nat}(ha:a.gX)(hb:b.gX)(a0:a.m≠0)(b0:b.m≠0)(ht:b.ij<=a.ij)(gY:p<=512):Ux a b p:=by
 have ra:=ha.range.resolve_left a0;have rb:=hb.range.resolve_left b0;have ta:=Ek a0;have tb:=Ek b0;obtain⟨h1,h2,h3⟩:=Lj a b p;have hx:ib (mG a b p)=ib a.m+(a.e-iS a b p).toNat:=qh a0 _;have Bo:iS a b p=a.e\/iS a b p=a.ij-p-8\/(a.ij-b.ij<=2/\iS a b p=b.e):=by unfold iS;split<;>omega
 have hy:ib (lL b (iS a b p))<=ib (mG a b p):=by
  unfold lL;split
  .rw [qh b0];omega
  .have:ib (b.m/2^(iS a b p-b.e).toNat)<=ib b.m-(iS a b p-b.e).toNat:=by
    rw[kV,cw (bn aE),<-bk];exact kV.1 aC 
   omega
 have pa:=np a0;have pb:=np b0;refine⟨aC,aC,aC,?_,aC,aC,aC,aC,λhl=>?_⟩
 .intro h;unfold mG at h;exact(dB a0 (dW (bn aE))) h
 .obtain ⟨K,d,k1,k2,k3,k4,k5,k6,k7⟩:=Ls (p:=p) a0 b0 h1 h2 h3;rcases k7 with rfl|⟨k7,k8⟩
  .rw [k6]at hl;simp[dJ]at hl
  .rw [k5];exact⟨k7,k8⟩
def LG{a b:Dy}{p:Nat}(ha:a.gX)(hb:b.gX)(a0:a.m≠0)(b0:b.m≠0)(ht:b.ij<=a.ij)(gY:p<=512):
 ib (lK a b p)<=4101/\ib (kT a b p)<=4102/\(me a b p=true->p<ib (kT a b p)):=by
 obtain⟨l1,l2,l3,l4,l5,l6,l7,l8,l9⟩:=G3 ha hb a0 b0 ht gY;have hy:lK a b p<=lL b (iS a b p)+1:=by unfold lK;split<;>omega
 obtain⟨K,hK⟩:∃ K:Nat,K=4100:=⟨_,rfl⟩
 have g1:4101=K+1:= aC ;have g2:4102=K+2:= aC ;rw[g1,g2];rw[<-hK]at l3 l8;have hy4:lL b (iS a b p)<2^K:=kV.1 l8;have hx4:mG a b p<2^K:=kV.1 l3;have e1:(2:Nat)^(K+1)=2*2^K:=by rw[bw];omega
 have e2:(2:Nat)^(K+2)=4*2^K:=by rw[bk];omega
 generalize (2:Nat)^K=Z at *
 refine⟨kV.2 aC,kV.2 ?_,λhl=>?_⟩
 .unfold kT;split
  .omega
  .split<;>omega
 .unfold me at hl;simp only[bS,eV]at hl;obtain⟨q1,q2⟩:=l9 hl.1;have hX:2^(ib (mG a b p)-1)<=mG a b p:=rZ l4;rw[uR];have hY:lL b (iS a b p)<2^(ib (mG a b p)-3):=kV.1 aC;have e3:(2:Nat)^(ib (mG a b p)-1)=4*2^(ib (mG a b p)-3):=by
   rw[(aC:ib (mG a b p)-1=(ib (mG a b p)-3)+2),bk];omega
  have hp:(2:Nat)^p<=2^(ib (mG a b p)-3):=bH aE aC;unfold kT;split
  .omega
  .rename_i hs;unfold nV at hl;rw[aY (by
    have:=hl.2;simp[hs]at this;omega)]
   omega
def Tp{a b:Dy}{p:Nat}(ha:a.gX)(hb:b.gX)(a0:a.m≠0)(b0:b.m≠0)(up:Bool):
 (kT a b p=0/\me a b p=false->iN a b=jt) /\
 (¬(kT a b p=0/\me a b p=false)->jB (a.neg != nV a b p) (kT a b p) (iS a b p) (me a b p) p up=jk (iN a b) p up/\ju (a.neg != nV a b p) (kT a b p) (iS a b p) (me a b p) p up=jf (iN a b) p up):=by
 obtain⟨h1,h2,h3⟩:=Lj a b p;by_cases hs:a.neg=b.neg
 .have hn:(a.neg != b.neg)=false:=by rw[hs];simp
  have e1:nV a b p=false:=by unfold nV;rw[hn];rfl
  have e2:me a b p=mu b (iS a b p):=by unfold me;rw[e1];simp
  have e3:kT a b p=a.m*2^(a.e-iS a b p).toNat+lL b (iS a b p):=by unfold kT;rw[aZ hs];unfold mG lK;rw[hn];simp
  have hx:kT a b p≠0:=by
   rw[e3];have:=dB a0 (dW (bn (n:=(a.e-iS a b p).toNat) (show 0<2 by decide)));omega
  refine⟨λh=>absurd h.1 hx,λ_=>?_⟩;rw[e1,e2,e3];have:=aeq ha.canon hb.canon a0 b0 h1 h2 h3 hs up;cases hA:a.neg<;>rw[hA]at this<;>exact this
 .have hn:(a.neg != b.neg)=true:=by simpa using hs
  have eY:lK a b p=lL b (iS a b p)+if mu b (iS a b p)=true then 1 else 0:=by unfold lK;rw[hn];simp
  obtain⟨r1,r2⟩:=aep (p:=p) ha.canon hb.canon a0 b0 h1 h2 h3 hs up;rw[<-eY]at r1 r2;change mG a b p<lK a b p->_ at r1;change lK a b p<=mG a b p->_ at r2;by_cases hc:mG a b p<lK a b p
  .have e1:nV a b p=true:=by unfold nV;rw[hn,bh hc];rfl
   have e2:me a b p=false:=by unfold me;rw[e1];simp
   have e3:kT a b p=lK a b p-mG a b p:=by unfold kT;rw[aY hs,aZ hc]
   rw[e1,e2,e3];refine⟨λh=> aC,λ_=>?_⟩;have:=r1 hc;cases hA:a.neg<;>rw[hA]at this<;>exact this
  .have e1:nV a b p=false:=by unfold nV;rw[hn,bg hc];rfl
   have e2:me a b p=mu b (iS a b p):=by unfold me;rw[e1];simp
   have e3:kT a b p=mG a b p-lK a b p:=by unfold kT;rw[aY hs,aY hc]
   rw[e1,e2,e3];obtain⟨q1,q2⟩:=r2 aC;refine⟨q1,λh=>?_⟩;have:=q2 h;cases hA:a.neg<;>rw[hA]at this<;>exact this
end Go.Proofs.YtkjkcjhacddojaaGreatDoor.Fp
namespace Go.Proofs.YtkjkcjhacddojaaGreatDoor
open Go.RowKit Fp
def Vu(a b:Nat):ib (a*b)<=ib a+ib b:=by
 rw[kV,bk];exact Nat.mul_lt_mul'' (qH a) (qH b)
def adZ(a:Dy)(A:Option Addr)(c:Nat)(w:World)(h:Sl w A c (gV a.m))(ha:a.gX):
 Calls prog 96 #[DV a A c] w λe w'=>e = .returned (.bool true)/\iz w w':=
 GH a.neg A c (gV a.m) a.e w true h (by have:=ha.exp;omega) (by have:=ha.exp;omega) (by simp[ha.um])
def adV(a:Dy)(A:Option Addr)(c:Nat)(w:World)(h:Sl w A c (gV a.m)):
 Calls prog 53 #[DV a A c] w λe w'=>e = .returned (.int .i64 a.iJ)/\iz w w':=by
 have:=adU a.neg A c (gV a.m) a.e w h (vd _);rw[jM]at this;exact this
def adY(a:Dy)(A:Option Addr)(c:Nat)(w:World)(h:Sl w A c (gV a.m))(ha:xD a):
 Calls prog 171 #[DV a A c] w λe w'=>e = .returned (.int .i64 a.ij)/\iz w w':=by
 have:=adX a.neg A c (gV a.m) a.e w h (vd _) (by have:=ha.len;omega) (by have:=ha.lo;omega) (by have:=ha.hi;omega);rw[jM]at this;exact this
def Wt(d:Dy)(A:Option Addr)(c:Nat)(w:World)(hs:Sl w A c (gV d.m))(hl:(gV d.m).length<=100000000)(lh:-10000000<=d.e)(kx:d.e<=10000000):
 Calls prog 254 #[DV d A c] w (wB w (s5 d) (s6 d)):=by
 by_cases hd:mN d
 .rw [Na hd,M9 hd];exact M8 d A c w hs hl lh kx hd
 .rw [Ww hd,Wv hd];exact Wu d A c w hs hl lh kx hd
def M1(s:Bool)(m:Nat)(e:Int)(A:Option Addr)(c:Nat)(w:World)(hs:Sl w A c (gV m))(hl:(gV m).length<=256)(lh:-1000000<=e)(kx:e<=1000000)(rB:Tb w):
 Calls prog 255 #[.bool s,.slice A (gV m).length c,.int .i64 e] w (vj w (canon s m e)):=by
 have:=Fe s A c (gV m) e w hs aC (by have:=nX (gV m);unfold lu at this;omega) lh kx rB;rw[jM]at this;exact this
def RE{m:Nat}(h:m=0):(((gV m).length:Int)==0)=true:=by rw[h,nI];rfl
def ac9{m:Nat}(h:m≠0):(((gV m).length:Int)==0)=false:=by
 refine aT ?_;have:gV m≠[]:=λe=>h (QR.1 e)
 have:=ef.2 this;omega
def agQ(a b:Dy)(A B:Option Addr)(c d:Nat)(w:World)(_hs:Sl w A c (gV a.m))(hr:Sl w B d (gV b.m))(rB:Tb w)(hb:b.gX)(h0:a.m=0):
 Calls prog 303 #[DV a A c,DV b B d] w (wB w (s5 (iN a b)) (s6 (iN a b))):=by
 have Bv:iN a b=b:=by unfold iN;rw[aZ h0]
 rw[Bv,Na hb.range,M9 hb.range];have hl:=hb.len;obtain⟨lh,kx⟩:=hb.exp;have HC:=ahF (λw (h:Sl w B d (gV b.m)) (ht:Tb w)=>M1 b.neg b.m b.e B d w h hl aC aC ht);rw[hb.canon.E3]at HC;have n0:=RE h0;clear Bv h0;have hE:=((iz.alloc w (.cells #[.bool b.neg,.slice B ((gV b.m).length) d,.int .i64 b.e] 39)).trans (iz.alloc (w.alloc (.cells #[.bool b.neg,.slice B ((gV b.m).length) d,.int .i64 b.e] 39)) (.cells #[.bool b.neg,.slice B ((gV b.m).length) d,.int .i64 b.e] 39))).trans (iz.alloc ((w.alloc (.cells #[.bool b.neg,.slice B ((gV b.m).length) d,.int .i64 b.e] 39)).alloc (.cells #[.bool b.neg,.slice B ((gV b.m).length) d,.int .i64 b.e] 39)) (.cells #[.bool false,.slice none 0 0,.int .i64 0] 39));have b1:=((ji.rS (W:=w) (g:=w.heap.size) aH b.neg B ((gV b.m).length) d b.e).alloc (.cells #[.bool b.neg,.slice B ((gV b.m).length) d,.int .i64 b.e] 39)).alloc (.cells #[.bool false,.slice none 0 0,.int .i64 0] 39);have b2:=(ji.rS (W:=(w.alloc (.cells #[.bool b.neg,.slice B ((gV b.m).length) d,.int .i64 b.e] 39))) (g:=w.heap.size+1) aH b.neg B ((gV b.m).length) d b.e).alloc (.cells #[.bool false,.slice none 0 0,.int .i64 0] 39);have b3:=ji.rS (W:=((w.alloc (.cells #[.bool b.neg,.slice B ((gV b.m).length) d,.int .i64 b.e] 39)).alloc (.cells #[.bool b.neg,.slice B ((gV b.m).length) d,.int .i64 b.e] 39))) (g:=w.heap.size+2) aH false none 0 0 0;replace hr:=hr.below hE;replace rB:=rB.below hE;go_enter func303,ntmps303;go_wp2_with fail
 (with_reducible refine(HC.out _ hr rB).mono ?_)
 rintro r w1 ⟨A_h4,c_h4,rfl,h4,hb⟩;replace hE:=hE.trans hb;replace hr:=hr.below hb;replace rB:=rB.below hb;replace b1:=b1.ext hb;replace b2:=b2.ext hb;replace b3:=b3.ext hb;clear hb;have ag6:=b3.c0;have yb30:=b3.fr 0;have ag7:=b3.c1;have yb31:=b3.fr 1;have ag8:=b3.c2;have yb32:=b3.fr 2;go_wp2;exact A6 (d:=b) rfl rfl rfl rfl (b3.set _ _ _ _ _) rfl (b3.sP h4 _ _ _ _ _) (ji.rX hE aC _ _ _ _ _)
def Xt(a:Dy)(A:Option Addr)(c:Nat)(w:World)(h:Sl w A c (gV a.m))(ha:a.gX):
 Calls prog 216 #[DV a A c] w λe w'=>e = .returned (.int .i64 a.ij)/\iz w w':=by
 have:=IM a.neg A c (gV a.m) a.e w h ha.um;rw[jM]at this;exact this
set_option maxRecDepth 100000 in
set_option maxHeartbeats 8000000 in
def Xr(a : Dy)(A : Option Addr)(c : Nat)(w : World)(hs : Sl w A c (gV a.m))(ha : a.gX):
    Calls prog 166 #[DV a A c] w (vj w (jv a)) := by
  have HV := ahF (λw (h : Sl w A c (gV a.m)) => NU a A c w h ha);have hl := ha.len;by_cases h0 : a.m=0
  . have hz : Hid (jv a=jt) := by
      show jv a=jt;obtain⟨s,m,e⟩ := a;rcases ha.canon with⟨h1,h2,h3⟩|h1
      . simp only at h1 h2 h3;subst h1 h2 h3;rfl
      . simp only at h0 h1;omega
    have n0 := RE h0;clear h0;have hE := (iz.alloc w (.cells #[.bool a.neg,.slice A ((gV a.m).length) c,.int .i64 a.e] 39)).trans (iz.alloc (w.alloc (.cells #[.bool a.neg,.slice A ((gV a.m).length) c,.int .i64 a.e] 39)) (.cells #[.bool false,.slice none 0 0,.int .i64 0] 39));have b1 := (ji.rS (W := w) (g := w.heap.size) aH a.neg A ((gV a.m).length) c a.e).alloc (.cells #[.bool false,.slice none 0 0,.int .i64 0] 39);have b2 := ji.rS (W := (w.alloc (.cells #[.bool a.neg,.slice A ((gV a.m).length) c,.int .i64 a.e] 39))) (g := w.heap.size+1) aH false none 0 0 0;replace hs := hs.below hE;go_enter func166,ntmps166;go_wp2_with fail
    (with_reducible refine(HV.out _ hs).mono ?_)
    rintro r w1 ⟨rfl,hb⟩;replace hE := hE.trans hb;replace hs := hs.below hb;replace b1 := b1.ext hb;replace b2 := b2.ext hb;clear hb;have Hm := b1.c0;have Hn := b1.c1;have Ho := b1.c2;have ag3 := b2.c0;have yb20 := b2.fr 0;have ag4 := b2.c1;have yb21 := b2.fr 1;have ag5 := b2.c2;have yb22 := b2.fr 2;go_wp2;rw[hz.out];exact sr (d := jt) rfl rfl rfl (b2.set _ _ _ _ _) (by rw[show jt.m=0 from rfl,nI];rfl) (by rw[show jt.m=0 from rfl,nI];exact Sl.nil _) (ji.rX hE aC _ _ _ _ _)
  . have n0 := ac9 h0
    have HN := ahF (show jv a=⟨!a.neg,a.m,a.e⟩by unfold jv;simp[h0]);have HC := ahF (λw (h : Sl w A c (gV a.m)) => Iw A c (gV a.m) w h aC);clear h0;have hE := (iz.alloc w (.cells #[.bool a.neg,.slice A ((gV a.m).length) c,.int .i64 a.e] 39)).trans (iz.alloc (w.alloc (.cells #[.bool a.neg,.slice A ((gV a.m).length) c,.int .i64 a.e] 39)) (.cells #[.bool false,.slice none 0 0,.int .i64 0] 39));have b1 := (ji.rS (W := w) (g := w.heap.size) aH a.neg A ((gV a.m).length) c a.e).alloc (.cells #[.bool false,.slice none 0 0,.int .i64 0] 39);have b2 := ji.rS (W := (w.alloc (.cells #[.bool a.neg,.slice A ((gV a.m).length) c,.int .i64 a.e] 39))) (g := w.heap.size+1) aH false none 0 0 0;replace hs := hs.below hE;go_enter func166,ntmps166;go_wp2_with fail
    (with_reducible refine(HV.out _ hs).mono ?_)
    rintro r w1 ⟨rfl,hb⟩;replace hE := hE.trans hb;replace hs := hs.below hb;replace b1 := b1.ext hb;replace b2 := b2.ext hb;clear hb;have Hm := b1.c0;have Hn := b1.c1;have Ho := b1.c2;clear Hm Hn Ho;have Hm := b1.c0;have Hn := b1.c1;have Ho := b1.c2;go_wp2_with fail;clear Hm Hn Ho;replace hs := hs.drew;replace b1 := b1.drew;replace b2 := b2.drew;replace hE := hE.trans (iz.drew _);go_region_held3 (λw' => w'.cell? ⟨w.heap.size,0,none⟩=some (.bool a.neg)/\w'.cell? ⟨w.heap.size,1,none⟩=some (.slice A ((gV a.m).length) c)/\w'.cell? ⟨w.heap.size,2,none⟩=some (.int .i64 a.e))
      (first|with_reducible exact⟨(b1).c0,(b1).c1,(b1).c2⟩|with_reducible exact⟨(b1.ext oG).c0,(b1.ext oG).c1,(b1.ext oG).c2⟩|with_reducible exact⟨((b1.ext oG).I5 (g' := w.heap.size+1) aC _ _ _).c0,((b1.ext oG).I5 (g' := w.heap.size+1) aC _ _ _).c1,((b1.ext oG).I5 (g' := w.heap.size+1) aC _ _ _).c2⟩)
      (first
        | (go_at_call 244
           (with_reducible refine(HC.out _ hs).mono ?_)
           rintro r wx0 ⟨A_h4,c_h4,rfl,h4,oG⟩;have bz := b2.ext oG;have z0 := bz.c0;have z1 := bz.c1;have z2 := bz.c2;have y0 := bz.fr 0;have y1 := bz.fr 1;have y2 := bz.fr 2))
    replace hE := hE.trans oG;replace hs := hs.below oG;replace b1 := b1.ext oG;replace b2 := b2.ext oG;go_wp2;rw[HN.out];exact sr (d := ⟨!a.neg,a.m,a.e⟩) rfl rfl rfl (bz.set _ _ _ _ _) rfl (bz.sP h4 _ _ _ _ _) (ji.rX hE aC _ _ _ _ _)
open Pu
section
variable {f:FuncId} {L M:List Nat} {jL:E}
def DZ(hk:iD L)(hc:∀ (vs:Array Value) (w:World),(callFunc f vs).run prog w = .ok (.enter f vs) w)
 {R:Option Addr->Nat->World->Ending->World->Prop} (H:∀ A c w,Sl w A c L->Tb w->Calls prog f #[.slice A L.length c] w (R A c w))
 (hR:∀ (A:Option Addr) (c:Nat) (B:Nat->Prop) w e w',Sl w A c L->(∀ b,B b->b<w.heap.size/\nC w b)->R A c w e w'->∃ v,e = .returned v/\Below w.heap.size w w'/\iB B (λ_=>True) w' jL v):gU f [gW L] jL:=by
 refine⟨hc,λw B vs hK hB hr=>?_⟩;obtain⟨v1,vs,rfl,h1,hr⟩:=hr.lp;obtain rfl:=hr.o0;obtain⟨A,c,rfl,s1⟩:=uZ hk h1;exact(H A c w s1 hK).mono λe w' h=>hR A c B w e w' s1 hB h
def D0(hk:iD L){n:Int}(hc:∀ (vs:Array Value) (w:World),(callFunc f vs).run prog w = .ok (.enter f vs) w)
 {R:Option Addr->Nat->World->Ending->World->Prop} (H:∀ A c w,Sl w A c L->Tb w->Calls prog f #[.slice A L.length c,.int .i64 n] w (R A c w))
 (hR:∀ (A:Option Addr) (c:Nat) (B:Nat->Prop) w e w',Sl w A c L->(∀ b,B b->b<w.heap.size/\nC w b)->R A c w e w'->∃ v,e = .returned v/\Below w.heap.size w w'/\iB B (λ_=>True) w' jL v):gU f [gW L,iP n] jL:=by
 refine⟨hc,λw B vs hK hB hr=>?_⟩;obtain⟨v1,vs,rfl,h1,hr⟩:=hr.lp;obtain⟨v2,vs,rfl,h2,hr⟩:=hr.lp;obtain rfl:=hr.o0;obtain rfl:=iB.jX h2;obtain⟨A,c,rfl,s1⟩:=uZ hk h1;exact(H A c w s1 hK).mono λe w' h=>hR A c B w e w' s1 hB h
def yJ(hk:iD L)(hm:iD M)(hc:∀ (vs:Array Value) (w:World),(callFunc f vs).run prog w = .ok (.enter f vs) w)
 {R:World->Ending->World->Prop} (H:∀ A c B d w,Sl w A c L->Sl w B d M->Tb w->Calls prog f #[.slice A L.length c,.slice B M.length d] w (R w))
 (hR:∀ (B:Nat->Prop) w e w',(∀ b,B b->b<w.heap.size/\nC w b)->R w e w'->∃ v,e = .returned v/\Below w.heap.size w w'/\iB B (λ_=>True) w' jL v):gU f [gW L,gW M] jL:=by
 refine⟨hc,λw B vs hK hB hr=>?_⟩;obtain⟨v1,vs,rfl,h1,hr⟩:=hr.lp;obtain⟨v2,vs,rfl,h2,hr⟩:=hr.lp;obtain rfl:=hr.o0;obtain⟨A,c,rfl,s1⟩:=uZ hk h1;obtain⟨A',d,rfl,s2⟩:=uZ hm h2;exact(H A c A' d w s1 s2 hK).mono λe w' h=>hR B w e w' hB h
end
def D9{L:List Nat}{n:Int}(B:Nat->Prop)(w:World)(e:Ending)(w':World)(hB:∀ b,B b->b<w.heap.size/\nC w b)(h:AN w L n e w'):∃ v,e = .returned v/\Below w.heap.size w w'/\iB B (λ_=>True) w' (.ik [gW L,iP n]) v:=
 let⟨_,_,h1,h2,h3⟩:=h
 ⟨_,h1,h3,jJ.ik (.cons (yV hB h3 h2) (.cons (.v _) (.nil _ _ _)))⟩
def rl{L:List Nat}(B:Nat->Prop)(w:World)(e:Ending)(w':World)(hB:∀ b,B b->b<w.heap.size/\nC w b)(h:r9 w L e w'):∃ v,e = .returned v/\Below w.heap.size w w'/\iB B (λ_=>True) w' (gW L) v:=
 let⟨_,_,h1,h2,h3⟩:=h
 ⟨_,h1,h3,yV hB h3 h2⟩
def rO(L:List Nat)(hk:iD L):gU 274 [gW L] (gW (ix L)):=
 DZ hk call274 (λA c w h _=>sM A c L w h) λA c B w e w' h hB ⟨h1,h2⟩=>by subst h2;exact⟨_,h1,Below.refl _ _,yV hB (Below.refl _ _) h.rY⟩
def Rk(L:List Nat)(hk:iD L)(hl:(ix L).length<=256):gU 272 [gW L] (.ik [gW (ix L),iP 0]):=
 DZ hk call272 (λA c w h _=>DM A c L w h hl) λA c B w e w' h hB r=>D9 B w e w' hB r
def ab1(L:List Nat)(hk:iD L)(hl:L.length<=100000):gU 294 [gW L] (iP (ib (val L))):=
 DZ hk call294 (λA c w h _=>Rj A c L w h aC) λA c B w e w' h hB ⟨h1,h2⟩=>by subst h2;exact⟨_,h1,Below.refl _ _,.v _⟩
def KA(L M:List Nat)(hk:iD L)(hm:iD M)(hl:L.length<=100000)(mL:M.length<=100000):gU 220 [gW L,gW M] (iP (jZ (val L) (val M))):=
 yJ hk hm call220 (λA c B d w h k _=>Gi A B c d L M w h k aC aC) rv
def Rp(m n:Nat)(hl:(gV m).length<=256)(hn:n<=65536)(hf:(gV (m*2^n)).length<=256):gU 219 [gW (gV m),iP (n:Int)] (.ik [gW (gV (m*2^n)),iP 0]):=
 D0 (kZ m) call219 (λA c w h _=>Ro A c (gV m) n w h hl hn (by rw[jM];exact hf)) λA c B w e w' h hB r=>by rw[jM]at r;exact D9 B w e w' hB r
def KD(m n:Nat)(hl:(gV m).length<=256)(hn:n<=65536):gU 301 [gW (gV m),iP (n:Int)] (.ik [gW (gV (m/2^n)),iP 0]):=
 D0 (kZ m) call301 (λA c w h _=>Rr A c (gV m) n w h hl hn) λA c B w e w' h hB r=>by rw[jM]at r;exact D9 B w e w' hB r
def Gh(m n:Nat)(h1:(gV m).length<=256)(h2:(gV n).length<=256)(hf:(gV (m+n)).length<=256):gU 321 [gW (gV m),gW (gV n)] (.ik [gW (gV (m+n)),iP 0]):=by
 refine yJ (kZ m) (kZ n) call321 (λA c B d w h k _=>ab0 A B c d (gV m) (gV n) w h k h1 h2 (by rw[jM,jM];exact hf)) ?_;rw[jM,jM];exact D9
def DN(m n:Nat)(h1:(gV m).length<=256)(h2:(gV n).length<=256)(hf:n<=m):gU 322 [gW (gV m),gW (gV n)] (.ik [gW (gV (m-n)),iP 0]):=by
 refine yJ (kZ m) (kZ n) call322 (λA c B d w h k _=>acf A B c d (gV m) (gV n) w h k h1 h2 (by rw[jM,jM];exact hf)) ?_;rw[jM,jM];exact D9
def qT(m:Nat)(hl:(gV m).length<=100000):gU 294 [gW (gV m)] (iP (ib m)):=by
 have:=ab1 (gV m) (kZ m) hl;rwa[jM]at this
def xh(m n:Nat)(hl:(gV m).length<=100000)(mL:(gV n).length<=100000):gU 220 [gW (gV m),gW (gV n)] (iP (jZ m n)):=by
 have:=KA (gV m) (gV n) (kZ m) (kZ n) hl mL;rwa[jM,jM]at this
def vu(a:Dy)(ha:a.gX):gU 166 [gZ a] (gZ (jv a)):=wb call166 (λA c w h _=>Xr a A c w h ha) rd
def nx(a:Dy)(ha:a.gX):gU 216 [gZ a] (iP a.ij):=wb call216 (λA c w h _=>Xt a A c w h ha) rv
def zp(s:Bool)(m:Nat)(e:Int)(hl:(gV m).length<=256)(lh:-32768<=e)(kx:e<=32768)(hd:mN (canon s m e)):gU 362 [bP s,gW (gV m),iP e] (.ik [gZ (canon s m e),iP 0]):=by
 refine⟨call362,λw B vs hK hB hr=>?_⟩;obtain⟨v1,vs,rfl,h1,hr⟩:=hr.lp;obtain⟨v2,vs,rfl,h2,hr⟩:=hr.lp;obtain⟨v3,vs,rfl,h3,hr⟩:=hr.lp;obtain rfl:=hr.o0;obtain rfl:=iB.jX h1;obtain rfl:=iB.jX h3;obtain⟨A,c,rfl,s1⟩:=uZ (kZ m) h2;have:=abK s A c (gV m) e w s1 hl lh kx hK (by rw[jM];exact hd);rw[jM]at this;exact this.mono λe w' h=>La B w e w' hB h
def wa:E.le (.sl false 1 1 λi j=>[E.v (.int .u32 1)].getD (i*1+j) (.v (.bool false))) (gW (gV 1)):=by
 have e1:gV 1=[1]:=by rw[BL aE,show 1/4294967296=0 by decide,nI]
 rw[e1];refine .sl λi j hi hj=>?_
 obtain rfl:i=0:= aC ;obtain rfl:j=0:= aC ;exact⟨.refl _,rfl⟩
def jA(d:Dy):List E:=[bP d.neg,gW (gV d.m),iP d.e]
def ml(l:List Dy):E:=.sl true l.length 3 λi j=>(jA (l.getD i jt)).getD j .any
def IP(a:Dy):E.le (.sl true 1 3 λi j=>[bP a.neg,gW (gV a.m),iP a.e].getD (i*3+j) (.v (.bool false))) (ml [a]):=.sl λi j hi hj=>by
 obtain rfl:i=0:= aC ;rcases j with _|_|_|j
 .exact ⟨.refl _,rfl⟩
 .exact ⟨.refl _,rfl⟩
 .exact ⟨.refl _,rfl⟩
 .omega
def uq(a b:Dy):E.le (.sl true 2 3 λi j=>[bP a.neg,gW (gV a.m),iP a.e,bP b.neg,gW (gV b.m),iP b.e].getD (i*3+j) (.v (.bool false))) (ml [a,b]):=.sl λi j hi hj=>by
 obtain rfl|rfl:i=0\/i=1:= aC 
 all_goals
  rcases j with _|_|_|j
  .exact ⟨.refl _,rfl⟩
  .exact ⟨.refl _,rfl⟩
  .exact ⟨.refl _,rfl⟩
  .omega
def nk{n:Nat}(h:n≠0):((n:Int)==0)=false:= aN 
def rP{n:Nat}(h:n=0):((n:Int)==0)=true:=by subst h;rfl
def ab8{n:Nat}(h:n=0):((n:Int) != 0)=false:=by subst h;rfl
def ab9{n:Nat}(h:n≠0):((n:Int) != 0)=true:= aN 
def rK{m:Nat}:(gV m).length=0↔m=0:=by rw[ahh,QR]
def pr{m:Nat}(h:m≠0):(gV m).length≠0:=λq=>h (rK.1 q)
def Fp.Dy.gX.gV{d:Dy}(h:d.gX):(gV d.m).length<=256:=by have:=h.len;omega
end Go.Proofs.YtkjkcjhacddojaaGreatDoor
namespace Go.Proofs.YtkjkcjhacddojaaGreatDoor.Fp
structure Iv where
 lo:Dy
 hi:Dy
 all:Bool
def ie:Iv:=⟨jt,jt,true⟩
def Iv.gX(x:Iv):Prop:=(x.all=true/\x.lo=jt/\x.hi=jt)\/(x.all=false/\x.lo.gX/\x.hi.gX/\jj x.lo x.hi<=0)
def kS:ie.gX:=.inl ⟨rfl,rfl,rfl⟩
def kI(lo:Dy)(e:Int)(hi:Dy)(f:Int):Iv:=if e≠0\/f≠0 then ie else⟨lo,hi,false⟩
def uW(a b:Dy):Dy:=canon (a.neg != b.neg) (a.m*b.m) (a.e+b.e)
def qn(x:Iv):Iv:=if x.all then ie else⟨jv x.hi,jv x.lo,false⟩
def jN(x y:Iv)(p:Nat):Iv:=
 if x.all||y.all then ie else kI (jk (iN x.lo y.lo) p false) (jf (iN x.lo y.lo) p false) (jk (iN x.hi y.hi) p true) (jf (iN x.hi y.hi) p true)
def yW(x y:Iv)(p:Nat):Iv:=jN x (qn y) p
def WA{x y:Int}:vq x y<=0↔x<=y:=by
 unfold vq;split
 .constructor<;>intro<;>omega
 .split<;>constructor<;>intro<;>omega
def qS{a b:Dy}{k:Int}(ha:pD a k)(hb:pD b k):jj a b<=0↔a.num k<=b.num k:=by rw[Ct ha hb,WA]
def le_trans{a b c:Dy}(h1:jj a b<=0)(h2:jj b c<=0):jj a c<=0:=by
 obtain⟨k,ka,kb,kc⟩:∃ k:Int,k<=a.e/\k<=b.e/\k<=c.e:=⟨min a.e (min b.e c.e),aC,aC,aC⟩
 rw[qS (.inr ka) (.inr kb)]at h1;rw[qS (.inr kb) (.inr kc)]at h2;rw[qS (.inr ka) (.inr kc)];omega
def Ag(a:Dy):jj a a<=0:=by rw[qS (k:=a.e) (.inr (cj _)) (.inr (cj _))];exact cj _
def abc(a b:Dy):jj a b<=0\/jj b a<=0:=by
 obtain⟨k,ka,kb⟩:∃ k:Int,k<=a.e/\k<=b.e:=⟨min a.e b.e,aC,aC⟩
 rw[qS (.inr ka) (.inr kb),qS (.inr kb) (.inr ka)];omega
def acm{a b:Dy}(h:jj a b<=0):jj (jv b) (jv a)<=0:=by
 obtain⟨k,ka,kb⟩:∃ k:Int,k<=a.e/\k<=b.e:=⟨min a.e b.e,aC,aC⟩
 rw[qS (.inr ka) (.inr kb)]at h;rw[qS (k:=k) (HW (.inr kb)) (HW (.inr ka)),KM,KM];omega
def afs{a b c d:Dy}(h1:jj a b<=0)(h2:jj c d<=0):jj (iN a c) (iN b d)<=0:=by
 obtain⟨k,ka,kb,kc,kd⟩:∃ k:Int,k<=a.e/\k<=b.e/\k<=c.e/\k<=d.e:=⟨min (min a.e b.e) (min c.e d.e),aC,aC,aC,aC⟩
 rw[qS (.inr ka) (.inr kb)]at h1;rw[qS (.inr kc) (.inr kd)]at h2;rw[qS (k:=k) (EH (.inr ka) (.inr kc)) (EH (.inr kb) (.inr kd)),GY (.inr ka) (.inr kc),GY (.inr kb) (.inr kd)];omega
def E9(m:Nat)(e:Int)(p:Nat):
 kp m e false p false*2^jr m e p<=m/\m<=kp m e false p true*2^jr m e p:=by
 have h:=cC m (2^jr m e p);have hr:=bC m (bn (n:=jr m e p) (aE:0<2));unfold kp;simp only[bA,false_and,bq,bL,false_or,true_and];rw[bB];generalize m/2^jr m e p=q at *
 generalize 2^jr m e p=P at *
 refine⟨aC,?_⟩;rw[bR,bB q];split
 .omega
 .omega
def Ir{s:Bool}{m n:Nat}{e f K:Int}(h1:K<=e)(h2:K<=f)(h:m*2^(e-K).toNat<=n*2^(f-K).toNat):
 (s=false->jj (canon s m e) (canon s n f)<=0)/\(s=true->jj (canon s n f) (canon s m e)<=0):=by
 constructor
 .rintro rfl;rw[qS (xF h1) (xF h2),RO h1,RO h2]
  exact_mod_cast h
 .rintro rfl;rw[qS (xF h2) (xF h1),Am h1,Am h2];simp only[bD];omega
def Ns(neg:Bool)(m:Nat)(e:Int)(p:Nat)(up:Bool)(he:ju neg m e false p up=0)(_hp:1<=p):
 (up=true->jj (canon neg m e) (jB neg m e false p up)<=0)/\(up=false->jj (jB neg m e false p up) (canon neg m e)<=0):=by
 rw[Cy]at he;obtain⟨c1,c2⟩:=E9 m e p;have e1:(e-e).toNat=0:= aC ;have e2:(e+(jr m e p:Int)-e).toNat=jr m e p:= aC ;have hk:e<=e+(jr m e p:Int):= aC ;have A:=λs:Bool=>Ir (s:=s) (m:=kp m e false p false) (n:=m) (e:=e+jr m e p) (f:=e) (K:=e) hk (cj _) (by rw[e1,e2];simpa using c1)
 have B:=λs:Bool=>Ir (s:=s) (m:=m) (n:=kp m e false p true) (e:=e) (f:=e+jr m e p) (K:=e) (cj _) hk (by rw[e1,e2];simpa using c2)
 unfold jB;by_cases ho:lk m e false p (neg != up)=true
 .have hn:¬(neg != up)=true:=λh=>he ⟨ho,h⟩
  rw[aZ ho,aY hn];have PO:neg=up:=by cases neg<;>cases up<;>simp at hn ⊢
  have kz:(neg != up)=false:=by rw[PO];simp
  rw[kz]at ho;unfold lk at ho;simp only[bS,cI]at ho;obtain⟨o1,o2⟩:=ho;have hq:=rZ o1;have FF:=np o1;obtain⟨K,k1,k2⟩:∃ K:Int,K<=e/\K<=16384-p:=⟨min e (16384-p),aC,aC⟩
  have C:(2^p-1)*2^((16384:Int)-p-K).toNat<=m*2^(e-K).toNat:=by
   have h1:2^(ib (kp m e false p false)-1)*2^jr m e p<=m:=bj (bI _ hq) c1;have h2:=bI (2^(e-K).toNat) h1;rw[<-bk,<-bk]at h2;refine bj (bI _ (eA _ _)) (bj ?_ h2);rw[<-bk];exact bH aE aC 
  have D:=Ir (s:=neg) k2 k1 C;subst PO;cases neg
  .exact ⟨λh=>absurd h aE,λ_=>D.1 rfl⟩
  .exact ⟨λ_=>D.2 rfl,λh=>absurd h aE⟩
 .rw [aY ho];cases neg<;>cases up
  .exact ⟨λh=>absurd h aE,λ_=>(A false).1 rfl⟩
  .exact ⟨λ_=>(B false).1 rfl,λh=>absurd h aE⟩
  .exact ⟨λh=>absurd h aE,λ_=>(B true).2 rfl⟩
  .exact ⟨λ_=>(A true).2 rfl,λh=>absurd h aE⟩
def SB{d:Dy}(hd:d.mf)(p:Nat)(hp:1<=p):
 (jf d p true=0->jj d (jk d p true)<=0)/\(jf d p false=0->jj (jk d p false) d<=0):=by
 have h:=hd.E3;constructor
 .intro he;have:=(Ns d.neg d.m d.e p true he hp).1 rfl;rwa[h]at this
 .intro he;have:=(Ns d.neg d.m d.e p false he hp).2 rfl;rwa[h]at this
def oW{x y:Iv}(hx:x.gX)(hy:y.gX){p:Nat}(hp:1<=p)(gY:p<=4096):(jN x y p).gX:=by
 unfold jN;rcases hx with⟨h,_⟩|⟨h1,h2,h3,h4⟩
 .rw [h];exact kS
 .rcases hy with⟨h,_⟩|⟨k1,k2,k3,k4⟩
  .rw [h,h1];exact kS
  .rw [h1,k1];simp only[gp,bA,bq];unfold kI;by_cases he:jf (iN x.lo y.lo) p false≠0\/jf (iN x.hi y.hi) p true≠0
   .rw [aZ he];exact kS
   .rw [aY he];have e1:jf (iN x.lo y.lo) p false=0:= aC ;have e2:jf (iN x.hi y.hi) p true=0:= aC ;refine .inr ⟨rfl,q6 _ _ _ _ _ _ hp gY,q6 _ _ _ _ _ _ hp gY,?_⟩;exact le_trans ((SB (xM h2.canon k2.canon) p hp).2 e1) (le_trans (afs h4 k4) ((SB (xM h3.canon k3.canon) p hp).1 e2))
def yH{x:Iv}(hx:x.gX):(qn x).gX:=by
 unfold qn;rcases hx with⟨h,_⟩|⟨h1,h2,h3,h4⟩
 .rw [aZ h];exact kS
 .rw [h1];exact .inr ⟨rfl,yG h3,yG h2,acm h4⟩
def iT(a b:Dy):Dy:=if jj b a<0 then b else a
def iQ(a b:Dy):Dy:=if 0<jj b a then b else a
def DG(a b:Dy):jj (iT a b) a<=0:=by
 unfold iT;split
 .omega
 .exact Ag a
def Q7(a b:Dy):jj (iT a b) b<=0:=by
 unfold iT;split
 .exact Ag b
 .rcases abc a b with h|h
  .exact h
  .have h0:jj b a=0:= aC ;obtain⟨k,ka,kb⟩:∃ k:Int,k<=a.e/\k<=b.e:=⟨min a.e b.e,aC,aC⟩
   rw[Ct (k:=k) (.inr kb) (.inr ka)]at h0;rw[qS (.inr ka) (.inr kb)];unfold vq at h0;split at h0
   .omega
   .split at h0<;>omega
def Cu(a b:Dy):jj a b = -jj b a:=by
 obtain⟨k,ka,kb⟩:∃ k:Int,k<=a.e/\k<=b.e:=⟨min a.e b.e,aC,aC⟩
 rw[Ct (k:=k) (.inr ka) (.inr kb),Ct (k:=k) (.inr kb) (.inr ka)];unfold vq;split<;>split<;>(try split)<;>omega
def BO(a b:Dy):jj a (iQ a b)<=0:=by
 unfold iQ;split
 .rw [Cu];omega
 .exact Ag a
def Q6(a b:Dy):jj b (iQ a b)<=0:=by
 unfold iQ;split
 .exact Ag b
 .omega
def uT{a b:Dy}(ha:a.gX)(hb:b.gX):(iT a b).gX:=by unfold iT;split;exact hb;exact ha
def rN{a b:Dy}(ha:a.gX)(hb:b.gX):(iQ a b).gX:=by unfold iQ;split;exact hb;exact ha
def nF(D : Dy->Dy->Bool->Dy)(E : Dy->Dy->Bool->Int)(x y : Iv) : Iv:=
 if(E x.lo y.lo false=0/\E x.lo y.lo true=0)/\(E x.lo y.hi false=0/\E x.lo y.hi true=0)/\(E x.hi y.lo false=0/\E x.hi y.lo true=0)/\(E x.hi y.hi false=0/\E x.hi y.hi true=0)then
  ⟨iT (iT (iT (D x.lo y.lo false) (D x.lo y.hi false)) (D x.hi y.lo false)) (D x.hi y.hi false),
   iQ (iQ (iQ (D x.lo y.lo true) (D x.lo y.hi true)) (D x.hi y.lo true)) (D x.hi y.hi true),false⟩
 else ie
def Ou{D:Dy->Dy->Bool->Dy}{E:Dy->Dy->Bool->Int}{x y:Iv}(hv:∀ a b up,(D a b up).gX)
 (hle:E x.lo y.lo false=0->E x.lo y.lo true=0->jj (D x.lo y.lo false) (D x.lo y.lo true)<=0):(nF D E x y).gX:=by
 unfold nF;split
 .rename_i h;refine .inr ⟨rfl,uT (uT (uT (hv _ _ _) (hv _ _ _)) (hv _ _ _)) (hv _ _ _),rN (rN (rN (hv _ _ _) (hv _ _ _)) (hv _ _ _)) (hv _ _ _),?_⟩;refine le_trans (DG _ _) (le_trans (DG _ _) (le_trans (DG _ _) (le_trans (hle h.1.1 h.1.2) ?_)));exact le_trans (BO _ _) (le_trans (BO _ _) (BO _ _))
 .exact kS
def jm(x y:Iv)(p:Nat):Iv:=
 if x.all||y.all then ie else nF (λa b up=>jk (uW a b) p up) (λa b up=>jf (uW a b) p up) x y
def nT(x y:Iv){p:Nat}(hp:1<=p)(gY:p<=4096):(jm x y p).gX:=by
 unfold jm;split
 .exact kS
 .exact Ou (λ_ _ _=>q6 _ _ _ _ _ _ hp gY) (λh1 h2=>Nr _ _ _ _ _ h1 h2)
def kr(a b:Dy)(p:Nat)(g:Nat):Nat:=p+g+ib b.m-ib a.m
def nM(a b:Dy)(p:Nat)(up:Bool):Dy:=
 if a.m=0 then jt else jB (a.neg != b.neg) (a.m*2^kr a b p 2/b.m) (a.e-b.e-kr a b p 2) (decide (a.m*2^kr a b p 2%b.m≠0)) p up
def pj(a b:Dy)(p:Nat)(up:Bool):Int:=
 if a.m=0 then 0 else ju (a.neg != b.neg) (a.m*2^kr a b p 2/b.m) (a.e-b.e-kr a b p 2) (decide (a.m*2^kr a b p 2%b.m≠0)) p up
def IJ{a b:Dy}(a0:a.m≠0)(b0:b.m≠0)(p g:Nat)(hg:2<=g):p<ib (a.m*2^kr a b p g/b.m):=by
 have h1:=rZ a0;have h2:=qH b.m;have ha:=np a0;have h3:2^p<=a.m*2^kr a b p g/b.m:=by
  rw[cY aC];refine bj (cF _ (dq h2)) (bj ?_ (bI _ h1));rw[<-bk,<-bk];exact bH aE (by unfold kr;omega)
 exact uR.2 h3
def Xe{a b:Dy}(a0:a.m≠0)(b0:b.m≠0)(p:Nat)(up:Bool):
 jB (a.neg != b.neg) (a.m*2^kr a b p 3/b.m) (a.e-kr a b p 3-b.e) (decide (a.m*2^kr a b p 3%b.m≠0)) p up=nM a b p up /\
 ju (a.neg != b.neg) (a.m*2^kr a b p 3/b.m) (a.e-kr a b p 3-b.e) (decide (a.m*2^kr a b p 3%b.m≠0)) p up=pj a b p up:=by
 obtain⟨d,hd⟩:∃ d,kr a b p 3=kr a b p 2+d:=⟨kr a b p 3-kr a b p 2,by unfold kr;omega⟩
 have hb:=IJ a0 b0 p 2 aE;unfold nM pj;rw[aY a0,aY a0,hd];generalize kr a b p 2=k at *
 have hB:0<b.m:= aC ;have hP:=bn (n:=d) (aE:0<2);have e1:a.m*2^(k+d)/b.m/2^d=a.m*2^k/b.m:=by
  rw[dt,bk,<-bu,Nat.mul_div_mul_right _ _ hP]
 have e2:(decide (a.m*2^(k+d)%b.m≠0)||decide (a.m*2^(k+d)/b.m%2^d≠0))=decide (a.m*2^k%b.m≠0):=by
  have h1:a.m*2^(k+d)%(b.m*2^d)=a.m*2^k%b.m*2^d:=by rw[bk,<-bu,Nat.mul_mod_mul_right]
  have h2:a.m*2^(k+d)%(b.m*2^d)=a.m*2^(k+d)%b.m+b.m*(a.m*2^(k+d)/b.m%2^d):=Nat.mod_mul;rw[h1]at h2;rw[fe];simp only[eW,cI];constructor
  .intro h h0;rw[h0,cH]at h2;rcases h with h|h
   .omega
   .have:=fl hB (dM h);omega
  .intro h;apply bN;intro hn;have n1:a.m*2^(k+d)%b.m=0:=by
    apply bN;intro h';exact hn (.inl h')
   have n2:a.m*2^(k+d)/b.m%2^d=0:=by
    apply bN;intro h';exact hn (.inr h')
   rw[n1,n2,cA]at h2;have:=fl (dM h) hP;omega
 have h:=E8 (N:=a.m*2^(k+d)/b.m) (E:=a.e-((k+d:Nat):Int)-b.e) (more:=decide (a.m*2^(k+d)%b.m≠0)) (d:=d) (p:=p) (a.neg != b.neg) up (by rw[e1];exact hb);rw[e1,e2,(aC:a.e-((k+d:Nat):Int)-b.e+(d:Int)=a.e-b.e-(k:Int))]at h;exact⟨h.1.symm,h.2.symm⟩
def lO(x:Iv):Int:=if x.all then 0 else if 0<x.lo.iJ then 1 else if x.hi.iJ<0 then -1 else 0
def jT(x y:Iv)(p:Nat):Iv:=
 if x.all||y.all||decide (lO y=0)then ie else nF (λa b up=>nM a b p up) (λa b up=>pj a b p up) x y
def rz(x y:Iv){p:Nat}(hp:1<=p)(gY:p<=4096):(jT x y p).gX:=by
 unfold jT;split
 .exact kS
 .refine Ou (λa b up=>?_) (λh1 h2=>?_)
  .unfold nM;split
   .exact qe
   .exact q6 _ _ _ _ _ _ hp gY
  .unfold nM pj at *
   split
   .exact Ag _
   .rename_i h;rw[aY h]at h1 h2;exact Nr _ _ _ _ _ h1 h2
def lg(d:Dy):Dy:=⟨false,d.m,d.e⟩
def wD{d:Dy}(h:d.gX):(lg d).gX:=by
 refine⟨?_,h.range⟩;rcases h.canon with⟨h1,_,h3⟩|h1
 .exact .inl ⟨h1,rfl,h3⟩
 .exact .inr h1
def Uy(d:Dy)(k:Int):(lg d).num k=(d.jD k:Int):=by unfold Dy.num lg Dy.jD;simp
def kg(x:Iv):Dy:=iQ (lg x.lo) (lg x.hi)
def nj(x:Iv):Dy:=if lO x=0 then jt else iT (lg x.lo) (lg x.hi)
def jx(x:Iv):Iv:=if x.all then ie else⟨nj x,kg x,false⟩
def kK(d:Dy):Iv:=⟨d,d,false⟩
def rk{d:Dy}(h:d.gX):(kK d).gX:=.inr ⟨rfl,h,h,Ag d⟩
def yD{x:Iv}(h1:x.lo.gX)(h2:x.hi.gX):(kg x).gX:=rN (wD h1) (wD h2)
def EJ{x:Iv}(h:x.gX):(jx x).gX:=by
 unfold jx;rcases h with⟨h,_⟩|⟨h,h1,h2,_⟩
 .rw [h];exact kS
 .rw [h];have v1:=wD h1;have v2:=wD h2;refine .inr ⟨rfl,?_,yD h1 h2,?_⟩
  .show (nj x).gX;unfold nj;split
   .exact qe
   .exact uT v1 v2
  .show jj (nj x) (kg x)<=0;unfold nj;split
   .refine le_trans (b:=lg x.lo) ?_ (BO _ _);rw[qS (a:=jt) (b:=lg x.lo) (k:=x.lo.e) (.inl rfl) (.inr (cj _)),tL rfl,Uy];omega
   .exact le_trans (DG _ _) (BO _ _)
structure rq(m:List (List Iv))(n k:Nat):Prop where
 lf:m.length=n
 row:∀ r,r ∈ m->r.length=k
 ok:∀ r,r ∈ m->∀ x,x ∈ r->x.gX
 n1:1<=n
 n8:n<=8
 k1:1<=k
 k8:k<=8
def iK(n:Int):Dy:=nL n 0
def iF(n:Int):Iv:=kK (iK n)
end Go.Proofs.YtkjkcjhacddojaaGreatDoor.Fp
namespace Go.Proofs.YtkjkcjhacddojaaGreatDoor
open Go.RowKit Fp Pu
def iG(x:Iv):List E:=[bP x.lo.neg,gW (gV x.lo.m),iP x.lo.e,bP x.hi.neg,gW (gV x.hi.m),iP x.hi.e,bP x.all]
def ia(x:Iv):E:=.agg (iG x)
def im(l:List Iv):E:=.sl true l.length 7 λi j=>(iG (l.getD i ie)).getD j .any
def mP(m:List (List Iv)):E:=.sl true m.length 1 λi _=>im (m.getD i [])
def DO:E.le (.v (.slice none 0 0)) (gW (gV 0)):=by
 have:gW (gV 0) = .sl false 0 1 λi _=>.v (.int .u32 (((gV 0).getD i 0:Nat):Int)):=by unfold gW;rw[nI];rfl
 rw[this];exact .nil _ _ _
def wj:E.le (.agg [bP false,.v (.slice none 0 0),iP 0,bP false,.v (.slice none 0 0),iP 0,bP true]) (ia ie):=
 .agg (.cons (.refl _) (.cons DO (.cons (.refl _) (.cons (.refl _) (.cons DO (.cons (.refl _) (.cons (.refl _) .nil)))))))
structure RD where
 neg:Bool
 L:List Nat
 e:Int
structure RI where
 lo:RD
 hi:RD
 all:Bool
def Sr(d:RD):List E:=[bP d.neg,gW d.L,iP d.e]
def qJ(d:RD):E:=.agg (Sr d)
def yP(x:RI):List E:=[bP x.lo.neg,gW x.lo.L,iP x.lo.e,bP x.hi.neg,gW x.hi.L,iP x.hi.e,bP x.all]
def wh(x:RI):E:=.agg (yP x)
def B6:RD:=⟨false,[],0⟩
def jR:RI:=⟨B6,B6,true⟩
def pA(l:List RI):E:=.sl true l.length 7 λi j=>(yP (l.getD i jR)).getD j .any
def At(m:List (List RI)):E:=.sl true m.length 1 λi _=>pA (m.getD i [])
structure RD.mz(d:RD):Prop where
 ok:iD d.L
 lo:-9223372036854775808<=d.e
 hi:d.e<=9223372036854775807
structure RI.mz(x:RI):Prop where
 lo:x.lo.mz
 hi:x.hi.mz
def SL:B6.mz:=⟨iD.nil,aE,aE⟩
def Lv:jR.mz:=⟨SL,SL⟩
def RD.dy(d:RD):Dy:=⟨d.neg,val d.L,d.e⟩
def RD.Ok(d:RD):Prop:=nB d.neg d.L d.e
def RD.Zero(d:RD):Prop:=d.neg=false/\d.L=[]/\d.e=0
def RI.iv(x:RI):Iv:=⟨x.lo.dy,x.hi.dy,x.all⟩
def RI.Ok(x:RI):Prop:=(x.all=true/\x.lo.Zero/\x.hi.Zero)\/(x.all=false/\x.lo.Ok/\x.hi.Ok/\jj x.lo.dy x.hi.dy<=0)
def Fp.Dy.raw(d:Dy):RD:=⟨d.neg,gV d.m,d.e⟩
def Fp.Iv.raw(x:Iv):RI:=⟨x.lo.raw,x.hi.raw,x.all⟩
def RD.Ok.valid{d:RD}(h:d.Ok):d.dy.gX:=h.2.2
def RD.Ok.eq{d:RD}(h:d.Ok)(g:d.mz):d.dy.raw=d:=by
 obtain⟨n,L,e⟩:=d;show RD.mk n (gV (val L)) e=_;rw[<-nB.CI h g.ok]
def RD.Zero.eq{d:RD}(h:d.Zero):d.dy=jt/\d.dy.raw=d:=by
 obtain⟨n,L,e⟩:=d;obtain⟨rfl,rfl,rfl⟩:=h;refine⟨rfl,?_⟩;show RD.mk false (gV 0) 0=_;rw[nI]
def RI.Ok.valid{x:RI}(h:x.Ok):x.iv.gX:=by
 rcases h with⟨h1,h2,h3⟩|⟨h1,h2,h3,h4⟩
 .exact .inl ⟨h1,h2.eq.1,h3.eq.1⟩
 .exact .inr ⟨h1,h2.valid,h3.valid,h4⟩
def RI.Ok.eq{x:RI}(h:x.Ok)(g:x.mz):x.iv.raw=x:=by
 obtain⟨lo,hi,a⟩:=x;rcases h with⟨h1,h2,h3⟩|⟨h1,h2,h3,h4⟩
 .show RI.mk lo.dy.raw hi.dy.raw a=_;rw[h2.eq.2,h3.eq.2]
 .show RI.mk lo.dy.raw hi.dy.raw a=_;rw[h2.eq g.lo,h3.eq g.hi]
def Fp.Dy.Sg(d:Dy):d.raw.dy=d:=by show Dy.mk d.neg (val (gV d.m)) d.e=d;rw[jM]
def Kf(x:Iv):wh x.raw=ia x:=rfl
def Fp.Dy.gX.Be{d:Dy}(h:d.gX):d.raw.mz:=⟨kZ _,by have:=h.exp;show -9223372036854775808<=d.e;omega,by have:=h.exp;show d.e<=9223372036854775807;omega⟩
def Fp.Dy.gX.pt{d:Dy}(h:d.gX):d.raw.Ok:=h.um
def Fp.Iv.gX.pt{x:Iv}(h:x.gX):x.raw.Ok:=by
 rcases h with⟨h1,h2,h3⟩|⟨h1,h2,h3,h4⟩
 .refine .inl ⟨h1,?_,?_⟩
  .show x.lo.raw.Zero;rw[h2];exact⟨rfl,nI,rfl⟩
  .show x.hi.raw.Zero;rw[h3];exact⟨rfl,nI,rfl⟩
 .refine .inr ⟨h1,h2.pt,h3.pt,?_⟩;show jj x.lo.raw.dy x.hi.raw.dy<=0;rw[Dy.Sg,Dy.Sg];exact h4
def Fp.Iv.gX.jC{x:Iv}(h:x.gX):x.lo.gX/\x.hi.gX:=by
 rcases h with⟨_,h2,h3⟩|⟨_,h2,h3,_⟩
 .rw [h2,h3];exact⟨qe,qe⟩
 .exact ⟨h2,h3⟩
def Fp.Iv.gX.Be{x:Iv}(h:x.gX):x.raw.mz:=⟨h.jC.1.Be,h.jC.2.Be⟩
def agu:ie.raw=jR:=by
 show RI.mk jt.raw jt.raw true=RI.mk B6 B6 true;have:jt.raw=B6:=by show RD.mk false (gV 0) 0=_;rw[nI];rfl
 rw[this]
def we(l:List Iv):List RI:=l.map Iv.raw
def sO(m:List (List Iv)):List (List RI):=m.map we
def OL(l:List Iv)(i:Nat):(we l).getD i jR=(l.getD i ie).raw:=by
 unfold we;rw[bc,bc,cD];cases l[i]? with
 |none=>exact agu.symm
 |some x=>rfl
def QE(l:List Iv):pA (we l)=im l:=by
 unfold pA im;rw[show(we l).length=l.length by simp[we]];congr 1;funext i j;rw[OL];rfl
def abL(m:List (List Iv)):At (sO m)=mP m:=by
 unfold At mP;rw[show(sO m).length=m.length by simp[sO]];congr 1;funext i j;rw[<-QE];congr 1;unfold sO;rw[bc,bc,cD];cases m[i]? <;> rfl
structure Cm(m:List (List RI)):Prop where
 n1:1<=m.length
 n8:m.length<=8
 k1:1<=(m.getD 0 []).length
 k8:(m.getD 0 []).length<=8
 row:∀ i,i<m.length->(m.getD i []).length=(m.getD 0 []).length
 ok:∀ i,i<m.length->∀ j,j<(m.getD i []).length->((m.getD i []).getD j jR).Ok
def Ck(m:List (List RI)):Prop:=∀ r,r ∈ m->∀ x,x ∈ r->x.mz
def Ck.at{m:List (List RI)}(h:Ck m)(i j:Nat):((m.getD i []).getD j jR).mz:=by
 by_cases hi:i<m.length
 .rw [bc (l:=m),bt hi];show(m[i].getD j jR).mz;by_cases hj:j<m[i].length
  .rw [bc,bt hj];exact h _ (ck hi) _ (ck hj)
  .rw [bc,ct aC];exact Lv
 .rw [bc (l:=m),ct aC];exact Lv
def IN(d:RD)(g:d.mz)(b:Bool)(hb:b=true↔d.Ok):gU 92 [qJ d] (bP b):=by
 refine⟨call92,λw B vs hK hB hr=>?_⟩;obtain⟨v1,vs,rfl,h1,hr⟩:=hr.lp;obtain rfl:=hr.o0;obtain⟨us,rfl,q⟩:=iB.AR (show iB _ _ w (.agg _) v1 from h1);obtain⟨u1,us,rfl,k1,q⟩:=q.lp;obtain⟨u2,us,rfl,k2,q⟩:=q.lp;obtain⟨u3,us,rfl,k3,q⟩:=q.lp;obtain rfl:=q.o0;obtain rfl:=iB.jX k1;obtain rfl:=iB.jX k3;obtain⟨A,c,rfl,hs⟩:=uZ g.ok k2;exact(zw d.neg A c d.L d.e w b hs g.lo g.hi hb).mono λe w' h=>rv B w e w' hB h
def Lg(d:RD)(g:d.mz)(b:Bool)(hb:b=true↔d.Ok):gU 96 [qJ d] (bP b):=by
 refine⟨call96,λw B vs hK hB hr=>?_⟩;obtain⟨v1,vs,rfl,h1,hr⟩:=hr.lp;obtain rfl:=hr.o0;obtain⟨us,rfl,q⟩:=iB.AR (show iB _ _ w (.agg _) v1 from h1);obtain⟨u1,us,rfl,k1,q⟩:=q.lp;obtain⟨u2,us,rfl,k2,q⟩:=q.lp;obtain⟨u3,us,rfl,k3,q⟩:=q.lp;obtain rfl:=q.o0;obtain rfl:=iB.jX k1;obtain rfl:=iB.jX k3;obtain⟨A,c,rfl,hs⟩:=uZ g.ok k2;exact(GH d.neg A c d.L d.e w b hs g.lo g.hi hb).mono λe w' h=>rv B w e w' hB h
def aca{a b:Nat}(h:a≠b):((a:Int) != (b:Int))=true:= aN 
def Ak{a b:Nat}(h:a=b):((a:Int) != (b:Int))=false:=by simp[h]
def Rm{a b:Nat}(h:a=b):((a:Int)==b)=true:=by simp[h]
open Classical in
noncomputable def nc(x:RI):Bool:=decide x.Ok
def tM{x:RI}:nc x=true↔x.Ok:=by unfold nc;simp
open Classical in
noncomputable def uS(m:List (List RI)):Bool:=decide (Cm m)
def Kv{m:List (List RI)}:uS m=true↔Cm m:=by unfold uS;simp
def DF{m:List (List RI)}(h:¬Cm m):uS m=false:=by simpa using λq=>h (Kv.1 q)
open Go.ChangeShapes Go.WideShapes Go.ChangeAt
abbrev qI:Nat->Prop:=λ_=>False
def Wm{W:World}{a:Addr}{v:Value}(h:W.cell? a=some v):a.spot=none:=by
 obtain⟨b,o,s⟩:=a;rcases s with _|q
 .rfl
 .exfalso;unfold World.cell? at h;split at h<;>simp at h
def ad4{W:World}{a:Addr}{len cap sz:Nat}{nl:Bool}(el:Nat->Nat->E)(hl:len<=cap)(hm:cap<=maxLen)(kQ:0<sz)
 (h1:∀ i j,i<len->j<sz->(el i j).one=true/\(nl=true->(el i j).mv=true)/\(el i j).nr 2=true)
 (hx:∀ i,i<len->∃ cs,W.cells? 0 (a.add (i*sz)) sz=some cs/\∀ j,j<sz->∃ v,cs[j]? = some v/\iB qI qI W (el i j) v):
 iB qI qI W (.sl nl len sz el) (.slice (some a) len cap):=by
 have PM:cap<=9223372036854775807:=by simpa[maxLen]using hm
 have cellAt:∀ i j,i<len->j<sz->∃ v,W.cell? (a.add (i*sz+j))=some v/\iB qI qI W (el i j) v:=by
  intro i j hi hj;obtain⟨cs,h2,h3⟩:=hx i hi;obtain⟨v,h4,h5⟩:=h3 j hj;refine⟨v,?_,h5⟩;rw[<-Deep.add_add,(World.cells?_some h2).2.2 j hj,h4]
 by_cases h0:len=0
 .subst h0;exact .sl nl 0 sz el _ cap (λ_ _=>.bool false) aC PM (λh=>by cases h) (λi j hi=>absurd hi aC) (λi j hi=>absurd hi aC) (λi j hi=>absurd hi aC) (λi j hi=>absurd hi aC)
 .obtain ⟨b,o,s⟩:=a;have hs:s=none:=by
   obtain⟨v,h2,_⟩:=cellAt 0 0 aC kQ;rw[cH,bW,show(⟨b,o,s⟩:Addr).add 0=⟨b,o,s⟩from rfl]at h2;exact Wm h2
  subst hs;have cell2:∀ i j,∃ v:Value,i<len->j<sz->W.cell? ⟨b,o+(i*sz+j),none⟩=some v/\iB qI qI W (el i j) v:=by
   intro i j;by_cases hi:i<len
   .by_cases hj:j<sz
    .obtain ⟨v,h2,h3⟩:=cellAt i j hi hj;rw[zf]at h2;exact⟨v,λ_ _=>⟨h2,h3⟩⟩
    .exact ⟨.bool false,λ_ h=>absurd h hj⟩
   .exact ⟨.bool false,λh=>absurd h hi⟩
  let f:Nat->Nat->Value:=λi j=>Classical.choose (cell2 i j)
  have hf:∀ i j,i<len->j<sz->W.cell? ⟨b,o+(i*sz+j),none⟩=some (f i j)/\iB qI qI W (el i j) (f i j):=λi j=>cT (cell2 i j)
  refine .sl nl len sz el _ cap f hl PM (λh=>by cases h) (λi j hi hj=>?_) (λi j hi hj=>(h1 i j hi hj).2.2) (λi j hi hj=>?_) (λi j hi hj=>(hf i j hi hj).2)
  .exact ⟨(hf i j hi hj).2.one (h1 i j hi hj).1,λq=>(hf i j hi hj).2.mv ((h1 i j hi hj).2.1 q)⟩
  .exact ⟨b,o,rfl,id,block_lt_of_cell (hf i j hi hj).1,(hf i j hi hj).1⟩
def Un(W:World)(d:RD)(cs:List Value):Prop:=d.mz/\cs.length=3/\∀ j,j<3->∃ v,cs[j]? = some v/\iB qI qI W ((Sr d).getD j .any) v
def Ht(W:World)(x:RI)(cs:List Value):Prop:=x.mz/\cs.length=7/\∀ j,j<7->∃ v,cs[j]? = some v/\iB qI qI W ((yP x).getD j .any) v
section
variable {H:Type} {enc:TypeId×Value->H} {W:World} {fuel:Nat} {cs:List Value} {x:DataW H×List MemPlace}
def RX(h:DataW.trod enc prog W 0 (λ_=>true) true fuel 39 cs=some x)(iA:∀ p ∈ x.2,p.block<W.heap.size):∃ d,Un W d cs:=by
 obtain⟨s,A,L,cap,e,rfl,tz,h1,h2⟩:=acV h iA;refine⟨⟨s,L,e⟩,⟨tz.ok,h1,h2⟩,rfl,λj hj=>?_⟩;rcases j with _|_|_|j
 .exact ⟨_,rfl,.v _⟩
 .exact ⟨_,rfl,yV (w:=W) (λ_ h=>h.elim) (.refl _) tz⟩
 .exact ⟨_,rfl,.v _⟩
 .omega
def acX(h:DataW.trod enc prog W 0 (λ_=>true) true fuel 46 cs=some x)(iA:∀ p ∈ x.2,p.block<W.heap.size):∃ d,Ht W d cs:=by
 obtain⟨xs,n,rfl,rfl,hl,qF,hf⟩:=DataW.trod_struct underlying46 h;have hC:prog.cellsOf 46=7:= aF ;have hD:prog.cellsOf 39=3:= aF ;have hB:prog.cellsOf 4=1:= aF ;rw[hC]at hl;obtain⟨c0,c1,c2,c3,c4,c5,c6,rfl⟩:=abw hl;have h0:=hf 0 _ rfl;have h1:=hf 1 _ rfl;have h2:=hf 2 _ rfl;simp only[List.getElem_toArray,List.getElem_cons_zero,fK]at h0 h1 h2;simp only[hD,hB,List.drop_zero,List.drop_succ_cons,gK,List.take_zero]at h0 h1 h2;rw[bt (by rw[qF];decide)]at h0 h1 h2;obtain⟨lo,g1,_,k1⟩:=RX h0 (λp hp=>iA p (fo.2 ⟨_,ck _,hp⟩));obtain⟨hi,g2,_,k2⟩:=RX h1 (λp hp=>iA p (fo.2 ⟨_,ck _,hp⟩));obtain⟨al,e2,_⟩:=DataW.trod_bool underlying4 h2;simp at e2;subst e2;refine⟨⟨lo,hi,al⟩,⟨g1,g2⟩,rfl,λj hj=>?_⟩;rcases j with _|_|_|_|_|_|_|j
 .exact k1 0 aE 
 .exact k1 1 aE 
 .exact k1 2 aE 
 .exact k2 0 aE 
 .exact k2 1 aE 
 .exact k2 2 aE 
 .exact ⟨_,rfl,.v _⟩
 .omega
def aea(x:RI)(j:Nat)(hj:j<7):((yP x).getD j .any).one=true/\(((yP x).getD j .any).mv=true)/\((yP x).getD j .any).nr 2=true:=by
 rcases j with _|_|_|_|_|_|_|j
 all_goals first|exact⟨rfl,rfl,rfl⟩|omega
def acY(h:DataW.trod enc prog W 0 (λ_=>true) true fuel 26 cs=some x)(iA:∀ p ∈ x.2,p.block<W.heap.size):
  ∃ l v,cs=[v]/\(∀ y,y ∈ l->y.mz)/\iB qI qI W (pA l) v:=by
 have hC:prog.cellsOf 46=7:= aF ;rcases Deep.open_slice underlying26 h with⟨rfl,_⟩|⟨a,len,cap,m,n,D,Pl,rfl,hb,hl,hm,vL,rfl,hx⟩
 .exact ⟨[],_,rfl,(λy hy=>by cases hy),.sl true 0 7 _ none 0 (λ_ _=>.bool false) (bd _) aE (λ_=>rfl) (λi j hi=>absurd hi (bE i)) (λi j hi=>absurd hi (bE i)) (λi j hi=>absurd hi (bE i)) (λi j hi=>absurd hi (bE i))⟩
 .simp only[bD]at vL;subst vL;have ex:∀ i,∃ y:RI,i<len->∃ cs',W.cells? 0 (a.add (i*7)) 7=some cs'/\Ht W y cs':=by
   intro i;by_cases hi:i<len
   .obtain ⟨cs',h1,h2⟩:=hx i aC ;rw[hC]at h1;obtain⟨y,hy⟩:=acX h2 (λp hp=>iA p (List.mem_append_right _ (fo.2 ⟨i,cz.2 aC,hp⟩)));exact⟨y,λ_=>⟨cs',h1,hy⟩⟩
   .exact ⟨jR,λh=>absurd h hi⟩
  let X:Nat->RI:=λi=>Classical.choose (ex i)
  have hX:∀ i,i<len->∃ cs',W.cells? 0 (a.add (i*7)) 7=some cs'/\Ht W (X i) cs':=λi=>cT (ex i)
  have hlen:((List.range len).map X).length=len:= aH ;refine⟨(List.range len).map X,_,rfl,?_,?_⟩
  .intro y hy;obtain⟨i,hi,rfl⟩:=dk.1 hy;obtain⟨cs',_,h2⟩:=hX i (cz.1 hi);exact h2.1
  .have JF:∀ i,i<len->((List.range len).map X).getD i jR=X i:=by
    intro i hi;rw[bc,cD,List.getElem?_range hi];rfl
   have:=ad4 (W:=W) (a:=a) (len:=len) (cap:=m) (nl:=true) (λi j=>(yP (((List.range len).map X).getD i jR)).getD j .any) hl hm (show 0<7 by decide)
    (λi j _ hj=>let⟨h1,h2,h3⟩:=aea (((List.range len).map X).getD i jR) j hj;⟨h1,λ_=>h2,h3⟩)
    (λi hi=>by
     obtain⟨cs',h1,h2,_,h3⟩:=hX i hi;exact⟨cs',h1,λj hj=>by rw[JF i hi];exact h3 j hj⟩)
   unfold pA;rw[hlen];exact this
end
def Zp{P:Program}{c:OpenClaim}(h:P.funcs.any Func.goes=false)(hs:c.start = .entering):false=c.goesBy P:=by
 have h1:∀ g:Nat,(P.funcs[g]?).any Func.goes=false:=by
  intro g;cases hg:P.funcs[g]? with
  |none=>rfl
  |some fn=>
   rw[Option.any_some];rw[Array.any_eq_false]at h;obtain⟨hl,he⟩:=cS.1 hg;have:=h g hl;rw[he]at this;simpa using this
 have h2:∀ f,P.goes f=false:=by
  intro f;unfold Program.goes;rw[h,Bool.and_false,fV,dp];intro g _;rw[h1 g];decide
 unfold OpenClaim.goesBy Program.goesAt Program.goesFrom;rw[hs];cases P.funcNamed c.func with
 |none=>rfl
 |some f=>simp[h2 f]
def YG:Tryz.pinned.checked.prog.funcs.any Func.goes=false:= aF 
def Hj{k:IntKind}{z:Int}(h:(Lit.int k z).wf=true):jY k z:=by
 cases k<;>(simp[Lit.wf,IntKind.min,IntKind.max,IntKind.signed,IntKind.bits]at h;simp only[jY];omega)
end Go.Proofs.YtkjkcjhacddojaaGreatDoor
namespace Go.Proofs.YtkjkcjhacddojaaGreatDoor.Pu
open Go.RowKit
inductive R where
 |nil
 |ja
 |a (p:Prop) (r:R)
 |w (p:Prop) (r1:p->R) (r2:¬p->R)
def R.ok:R->Prop
 | .nil=>True
 | .ja=>False
 | .a p r=>p/\r.ok
 | .w p r1 r2=>(∀ h:p,(r1 h).ok)/\(∀ h:¬p,(r2 h).ok)
inductive Tr(P:Program)(K:World->Prop) where
 |nil
 |c {f:FuncId} {args:List E} {jL:E} (h:PC P K f args jL) (t:Tr P K)
 |cf {f:FuncId} {args:List E} {jL:E} (h:ED P K f args jL) (t:Tr P K)
 |cn {f:FuncId} {args:List E} {nl:Bool} {T:TypeId} {n sz:Nat} {el:Nat->Nat->E} (h:sW P K f args nl T n sz el) (t:Tr P K)
 |g {op:BinOp} {ty:TypeId} {x y:E} {v:Value} (h:mA P op ty x y v) (t:Tr P K)
 |m {l:List (Int×FuncId×List FuncId)} {z:Int} {e:E} (h:vW l z=some e) (t:Tr P K)
 |o (d:Nat) {p q:PV} (h:PV.le p q) (t:Tr P K)
 |bo (t:Tr P K)
 |a {p:Prop} (h:p) (t:Tr P K)
 |w (p:Prop) (t1:p->Tr P K) (t2:¬p->Tr P K)
 |s {c:Code} {σ τ:PS} {e:Ex} (h:Sp P K c σ (λe' τ'=>e'=e/\τ'=τ)) (l t:Tr P K)
 |j (c:Nat) (τ:PS) (tj t:Tr P K)
 |v (d:Nat) {p q:PV} (h:PV.le p q) (t:Tr P K)
 |b (d:Nat) {p q:Bx} (h:Bx.le p q) (t:Tr P K)
 |z (id:Nat) (t:Tr P K)
 |y (s id:Nat) (nl:Bool) (T:TypeId) (sz:Nat) (el:Nat->Nat->E) (t:Tr P K)
 |e (t:Tr P K)
 |k (ts bs:List Nat) (t:Tr P K)
 |u (n:Nat) (t:Tr P K)
 |x (h:False)
 |r {p q:E} (h:E.le p q)
 |rb {p q:Bx} (h:Bx.le p q)
section
variable {P:Program} {K:World->Prop}
def Ce:List (Nat×PV)->Tr P K->(Tr P K->R)->R
 | [],t,k=>k t
 | (d,q)::l,t,k=>match t with
  | .o d' (p:=p) (q:=q') _ t'=>if Nat.beq d' d then .a (PV.le p q') (Ce l t' k)else .a (PV.le q q) (Ce l t k)
  |t=>.a (PV.le q q) (Ce l t k)
def AU:List (Nat×Bx)->Tr P K->R->R
 | [],_,r=>r
 | (d,q)::l,t,r=>match t with
  | .b d' (p:=p) (q:=q') _ t'=>if Nat.beq d' d then .a (Bx.le p q') (AU l t' r)else .a (Bx.le q q) (AU l t r)
  |t=>.a (Bx.le q q) (AU l t r)
def B9(σ:PS)(t:Tr P K)(r:R):R:=Ce σ.t t λt=>AU σ.b t r
def Tr.ex:Tr P K->(Tr P K->R)->R
 | .nil,fin=>fin .nil
 | .e t,fin=>fin t
 | @Tr.c _ _ f args jL _ t,fin=>.a (PC P K f args jL) (t.ex fin)
 | @Tr.cf _ _ f args jL _ t,fin=>.a (ED P K f args jL) (t.ex fin)
 | @Tr.cn _ _ f args nl T n sz el _ t,fin=>.a (sW P K f args nl T n sz el) (t.ex fin)
 | @Tr.g _ _ op₁ ty₁ xe₁ ye₁ ve₁ _ t,fin=>.a (mA P op₁ ty₁ xe₁ ye₁ ve₁) (t.ex fin)
 | @Tr.m _ _ l₁ z₁ e₁ _ t,fin=>.a (vW l₁ z₁=some e₁) (t.ex fin)
 | .o _ (p:=p) (q:=q) _ t,fin=>.a (PV.le p q) (t.ex fin)
 | .bo t,fin=>.a True (t.ex fin)
 | .a (p:=p) _ t,fin=>.a p (t.ex fin)
 | .w p t1 t2,fin=>.w p (λh=>(t1 h).ex fin) (λh=>(t2 h).ex fin)
 | @Tr.s _ _ c₁ σ τ e₁ _ l t,fin=>B9 σ l (.a (Sp P K c₁ σ (λe' τ'=>e'=e₁/\τ'=τ)) (t.ex fin))
 | .j _ τ tj t,fin=>.a (tj.ex λt=>B9 τ t .nil).ok (t.ex fin)
 | .v _ (p:=p) (q:=q) _ t,fin=>.a (PV.le p q) (t.ex fin)
 | .b _ _ t,fin=>t.ex fin
 | .z _ t,fin=>t.ex fin
 | .y _ _ _ _ _ _ t,fin=>t.ex fin
 | .k _ _ t,fin=>t.ex fin
 | .u _ t,fin=>t.ex fin
 | .x _,fin=>.a False .nil
 | .r (p:=p) (q:=q) _,fin=>.a (E.le p q) .nil
 | .rb (p:=p) (q:=q) _,fin=>.a (Bx.le p q) .nil
def afD{l:List (Nat×PV)}{t:Tr P K}{k:Tr P K->R}(hk:∀ t,(k t).ok):(Ce l t k).ok:=by
 induction l generalizing t with
 |nil=>exact hk t
 |cons x l ih=>
  obtain⟨d,q⟩:=x;cases t with
  |o d' h t'=>
   simp only[Ce];split
   .exact ⟨h,ih⟩
   .exact ⟨PV.le.refl q,ih⟩
  |_=>exact⟨PV.le.refl q,ih⟩
def UR{l:List (Nat×Bx)}{t:Tr P K}{r:R}(hr:r.ok):(AU l t r).ok:=by
 induction l generalizing t with
 |nil=>exact hr
 |cons x l ih=>
  obtain⟨d,q⟩:=x;cases t with
  |b d' h t'=>
   simp only[AU];split
   .exact ⟨h,ih⟩
   .exact ⟨Bx.le.refl q,ih⟩
  |_=>exact⟨Bx.le.refl q,ih⟩
def LF{σ:PS}{t:Tr P K}{r:R}(hr:r.ok):(B9 σ t r).ok:=afD λ_=>UR hr
def Tr.I0{fin:Tr P K->R}(hf:∀ t,(fin t).ok)(t:Tr P K):(t.ex fin).ok:=by
 induction t generalizing fin with
 |nil=>exact hf _
 |e t=>exact hf _
 |c h t ih=>exact⟨h,ih hf⟩
 |cf h t ih=>exact⟨h,ih hf⟩
 |cn h t ih=>exact⟨h,ih hf⟩
 |g h t ih=>exact⟨h,ih hf⟩
 |m h t ih=>exact⟨h,ih hf⟩
 |o d h t ih=>exact⟨h,ih hf⟩
 |bo t ih=>exact⟨trivial,ih hf⟩
 |a h t ih=>exact⟨h,ih hf⟩
 |w p t1 t2 Dl Dm=>exact⟨λh=>Dl h hf,λh=>Dm h hf⟩
 |s h l t ihl J4=>exact LF ⟨h,J4 hf⟩
 |j c τ tj t ihj J4=>exact⟨ihj λ_=>LF trivial,J4 hf⟩
 |v d h t ih=>exact⟨h,ih hf⟩
 |b d h t ih=>exact ih hf
 |z id t ih=>exact ih hf
 |y s id nl T sz el t ih=>exact ih hf
 |k ts bs t ih=>exact ih hf
 |u n t ih=>exact ih hf
 |x h=>exact h.elim
 |r h=>exact⟨h,trivial⟩
 |rb h=>exact⟨h,trivial⟩
def LI(υ:PS):List (Nat×PV)->R->R
 | [],r=>r
 | (d,q)::l,r=>.a (PV.le (υ.get d) q) (LI υ l r)
def EU(υ:PS):List (Nat×Bx)->R->R
 | [],r=>r
 | (d,q)::l,r=>match υ.bo d with
  |some b=>.a (Bx.le b q) (EU υ l r)
  |none=>.ja
def GX(υ σ:PS)(r:R):R:=if Nat.beq υ.n σ.n&&(σ.b.all (λx=>x.2.nl)||(σ.nl==υ.nl))&&D8 σ then LI υ σ.t (EU υ σ.b r)else .ja
def Tr.tail:Tr P K->Tr P K
 | .c _ t=>t
 | .cf _ t=>t
 | .cn _ t=>t
 | .g _ t=>t
 | .m _ t=>t
 | .bo t=>t
 | .a _ t=>t
 |_=>.nil
def KO:List Prop->Tr P K->(Tr P K->R)->R
 | [],t,k=>k t
 |p::l,t,k=>.a p (KO l t.tail k)
def Nb(d:Option Tmp)(t:Tr P K):oR:=match d with
 |some d=>match t with
  | @Tr.c _ _ _ _ jL _ _=>{ cl:=[(d,jL)] }
  | @Tr.cf _ _ _ _ jL _ _=>{ cl:=[(d,jL)] }
  | @Tr.g _ _ _ _ _ _ ve₁ _ _=>{ cl:=[(d,.v ve₁)] }
  | @Tr.m _ _ _ _ e₁ _ _=>{ cl:=[(d,e₁)] }
  | @Tr.cn _ _ _ _ nl T n sz el _ _=>{ nw:=[(d,.row nl T n sz el)] }
  | .bo _=>{ nw:=[(d,.cells 0 [])] }
  |_=>{}
 |none=>{}
def D1:Tr P K->(Tr P K->R)->R
 | .w p t1 t2,k=>.w p (λh=>D1 (t1 h) k) (λh=>D1 (t2 h) k)
 | .x _,_=>.a False .nil
 |t,k=>k t
def KY(o:Oper)(u:jV)(t:Tr P K)(k:jV->Tr P K->R):R:=match o.dst,t with
 |some d,.o d' (q:=q) _ t'=>if Nat.beq d' d then .a (PV.le u.r q) (k { u with r:=q,jo:=PV.le u.r q::u.jo } t')else k u t
 |_,t=>k u t
def KU(T:List TI)(ops:Array Oper)(σ:PS)(o:Oper)(t:Tr P K)(k:jV->Tr P K->R):R:=
 if tC σ o.dst then match xz ops σ o with
  |some false=>k { r:=.e (.v (.tuple #[])),rd:=(looks ops o).map σ.get } t
  |some true=>D1 t λt=>match jb P K T (Nb o.dst t) σ o with
   |some u=>KO u.jo t λt=>D1 t λt=>KY o u t λu t=>k { u with rd:=(looks ops o).map σ.get } t
   |none=>.ja
  |none=>.ja
 else .ja
def KW(T:List TI)(ops:Array Oper)(k:List (Oper×jV)->PS->Tr P K->R):List Oper->List (Oper×jV)->PS->Tr P K->R
 | [],us,σ,t=>k us σ t
 |o::l,us,σ,t=>KU T ops σ o t λu t'=>KW T ops k l ((o,u)::us) (σ.app o.dst u) t'
def qo(c:Bool):Tr P K->PS->(Tr P K->PS->R)->R
 | .w p t1 t2,σ,k=>.w p (λh=>qo c (t1 h) σ k) (λh=>qo c (t2 h) σ k)
 | .x _,_,_=>.a False .nil
 | .v d (q:=q) _ t,σ,k=>match q with
  | .e x=>if tC σ (some d)then .a (PV.le (σ.get d) (.e x)) (qo c t (σ.put (some d) (.e x)) k)else .ja
  |_=>.ja
 | .k ts bs t,σ,k=>if c then k (.k ts bs t) σ else if D8 (σ.cut ts bs)then qo c t (σ.cut ts bs) k else .ja
 | .z id t,σ,k=>if c then k (.z id t) σ else match σ.bo id with
  |some b=>match b.as with
   |some e=>qo c t (σ.vz id e) k
   |none=>.ja
  |none=>.ja
 | .y s id nl T sz el t,σ,k=>if c then k (.y s id nl T sz el t) σ else match σ.bo id,σ.get s with
  |none,.e (.v (.slice none 0 0))=>if !σ.nl||nl then qo c t (σ.AP s id (.row nl T 0 sz el)) k else .ja
  |_,_=>.ja
 |t,σ,k=>k t σ
def LC(c:Code)(σ:PS)(t:Tr P K)(k:Ex->PS->Tr P K->R):R:=match t with
 | @Tr.s _ _ _ σ' τ e _ _ t=>GX σ σ' (.a (Sp P K c σ' (λe' τ'=>e'=e/\τ'=τ)) (k e τ t))
 |_=>.ja
def Ex.oP:Ex->Ex->Bool
 | .normal,.normal=>true
 | .ret,.ret=>true
 | .exit a,.exit b=>Nat.beq a b
 |_,_=>false
def CH(e:Ex)(τ:PS)(e':Ex)(υ:PS)(_:Tr P K):R:=if Ex.oP e' e then GX υ τ .nil else .ja
def WE:Operand->Nat
 | .tmp t=>2*t
 |_=>1
def jn(c:Nat)(g:PS->Tr P K->(Ex->PS->Tr P K->R)->R)(σ:PS)(t:Tr P K)(k:Ex->PS->Tr P K->R):R:=match t with
 | .j c' τ tj t'=>if Nat.beq c' c then .a (g σ tj (CH .normal τ)).ok (k .normal τ t')else g σ t k
 |t=>g σ t k
def TW(f:PS->Tr P K->(Ex->PS->Tr P K->R)->R):Nat->PS->Tr P K->(Ex->PS->Tr P K->R)->R
 | 0,_,_,_=>.ja
 |n+1,σ,t,k=>qo false t σ λt σ=>f σ t λe τ t=>match e with
  | .normal=>TW f n τ t k
  |e=>k e τ t
def s9(T:List TI):Code->PS->Tr P K->(Ex->PS->Tr P K->R)->R
 | .skip,σ,t,k=>k .normal σ t
 | .region _ ops d,σ,t,k=>KW T ops (λus τ t=>if !d||BT ops 0 us.reverse then k .normal τ t else .ja) ops.toList [] σ t
 | .seq a b,σ,t,k=>s9 T a σ t λe τ t=>match e with
  | .normal=>s9 T b τ t k
  |e=>k e τ t
 | .cond c a b,σ,t,k=>qo true t σ λt σ=>jn (WE c) (λσ t k=>qo true t σ λt σ=>match σ.op c with
  | .e (.v (.bool true))=>s9 T a σ t k
  | .e (.v (.bool false))=>s9 T b σ t k
  |_=>.ja) σ t k
 | .block id b,σ,t,k=>qo true t σ λt σ=>jn (2*id+1) (λσ t k=>s9 T b σ t λe τ t=>match e with
  | .exit i=>if Nat.beq i id then k .normal τ t else k (.exit i) τ t
  |e=>k e τ t) σ t k
 | .exit id,σ,t,k=>qo false t σ λt σ=>k (.exit id) σ t
 | .ret,σ,t,k=>qo false t σ λt σ=>k .ret σ t
 | .loop b,σ,t,k=>qo false t σ λt σ=>match t with
  | .u n t=>TW (s9 T b) n σ t k
  |t=>LC (.loop b) σ t k
 | .label _,σ,t,k=>k .normal σ t
 | .scope b,σ,t,k=>s9 T b σ t k
 |_,_,_,_=>.ja
def R3{t:Tr P K}{k:Tr P K->R}(h:(D1 t k).ok):∃ t',(k t').ok:=by
 induction t with
 |w p t1 t2 Dl Dm=>
  by_cases hp:p
  .exact Dl hp (h.1 hp)
  .exact Dm hp (h.2 hp)
 |x hf=>exact hf.elim
 |_=>exact⟨_,h⟩
def acF{l:List Prop}{t:Tr P K}{k:Tr P K->R}(h:(KO l t k).ok):(∀ q,q ∈ l->q)/\∃ t',(k t').ok:=by
 induction l generalizing t with
 |nil=>exact⟨λq hq=>by simp at hq,t,h⟩
 |cons p l ih=>
  obtain⟨h1,h2⟩:=ih h.2;refine⟨λq hq=>?_,h2⟩;rcases cU.1 hq with hq|hq
  .subst hq;exact h.1
  .exact h1 q hq
variable {T:List TI} {ops:Array Oper} {σ:PS} {o:Oper}
def ac0{O:oR}{u:jV}{t:Tr P K}{k:jV->Tr P K->R}(hO:O.ov=[])(hu:jb P K T O σ o=some u)(ho:∀ q,q ∈ u.jo->q)(h:(KY o u t k).ok):
 ∃ O' u' t',su P K T O' σ o=some u'/\(∀ q,q ∈ u'.jo->q)/\(k u' t').ok:=by
 have plain:(k u t).ok->∃ O' u' t',su P K T O' σ o=some u'/\(∀ q,q ∈ u'.jo->q)/\(k u' t').ok:=by
  intro h;refine⟨O,u,t,?_,ho,h⟩;unfold su;rw[hu,hO];cases o.dst<;>rfl
 unfold KY at h;split at h
 .rename_i d d' p q hpq t' hd;split at h
  .obtain ⟨h1,h2⟩:=h;refine⟨⟨O.cl,[(d,q)],O.nw⟩,_,t',?_,λx hx=>?_,h2⟩
   .unfold su;have he:jb P K T ⟨O.cl,[(d,q)],O.nw⟩ σ o=jb P K T O σ o:=by cases O;rfl
    rw[he,hu,hd];simp[look]
   .rcases cU.1 hx with hx|hx
    .subst hx;exact h1
    .exact ho x hx
  .exact plain h
 .exact plain h
def acT{t:Tr P K}{k:jV->Tr P K->R}(h:(KU T ops σ o t k).ok):∃ u t',(∃ O,pQ P K T O ops σ o=some u)/\(∀ q,q ∈ u.jo->q)/\(k u t').ok:=by
 unfold KU at h;split at h
 .rename_i hi;split at h
  .rename_i hw;refine⟨_,t,⟨{},?_⟩,λq hq=>by simp at hq,h⟩;unfold pQ;rw[aZ hi,hw]
  .rename_i hw;obtain⟨t1,h1⟩:=R3 h;split at h1
   .rename_i u hu;obtain⟨ho,t2,h2⟩:=acF h1;obtain⟨t2,h2⟩:=R3 h2;obtain⟨O',u',t3,Bw,ho',h3⟩:=ac0 (by
     unfold Nb;cases o.dst with
     |none=>rfl
     |some d=>cases t1<;>rfl) hu ho h2
    refine⟨{ u' with rd:=(looks ops o).map σ.get },t3,⟨O',?_⟩,ho',h3⟩;unfold pQ;rw[aZ hi,hw,Bw]
   .exact h1.elim
  .exact h.elim
 .exact h.elim
def acZ{k:List (Oper×jV)->PS->Tr P K->R}{l:List Oper}{us:List (Oper×jV)}{t:Tr P K}(h:(KW T ops k l us σ t).ok):
 ∃ vs τ t',ug P K T ops vs σ τ/\vs.map (·.1)=l/\(∀ x,x ∈ vs->∀ q,q ∈ x.2.jo->q)/\(k (vs.reverse++us) τ t').ok:=by
 induction l generalizing us σ t with
 |nil=>exact⟨[],σ,t,qv.refl σ,rfl,λx hx=>by simp at hx,h⟩
 |cons o l ih=>
  obtain⟨u,t1,h1,h2,h3⟩:=acT h;obtain⟨vs,τ,t',k1,k2,k3,k4⟩:=ih h3;refine⟨(o,u)::vs,τ,t',⟨h1,k1⟩,by simp[k2],λx hx=>?_,by simpa using k4⟩;rcases cU.1 hx with hx|hx
  .subst hx;exact h2
  .exact k3 x hx
def PS.le.set{σ:PS}{d:Nat}{x:E}(hd:tC σ (some d)=true)(h:PV.le (σ.get d) (.e x)):PS.le σ (σ.put (some d) (.e x)):=λw0 B a w L _ r=>by
 have zF:d<σ.n:=by simpa[tC,Nat.blt_eq]using hd
 refine⟨L,r.hd,by rw[PS.Kz];exact r.hs,λt=>?_,λid b hb=>r.hb id b hb,r.hv,r.hn,r.hw,r.hi,r.he,r.hl⟩;rw[PS.Jf];by_cases e:d=t
 .subst e;rw[aZ rfl];exact h _ _ _ _ _ (r.ht d)
 .rw [aY e];exact r.ht t
def Aq{c:Bool}{t:Tr P K}{σ:PS}{k:Tr P K->PS->R}(h:(qo c t σ k).ok):∃ t' τ,PS.le σ τ/\(k t' τ).ok:=by
 induction t generalizing σ with
 |w p t1 t2 Dl Dm=>
  by_cases hp:p
  .exact Dl hp (h.1 hp)
  .exact Dm hp (h.2 hp)
 |k ts bs t ih=>
  simp only[qo]at h;split at h
  .exact ⟨_,σ,PS.le.refl σ,h⟩
  split at h
  .rename_i hr;obtain⟨t',τ,h1,h2⟩:=ih h;exact⟨t',τ,(PS.le.cut ts bs hr).trans h1,h2⟩
  .exact h.elim
 |v d h0 t ih=>
  simp only[qo]at h;split at h
  .rename_i x;split at h
   .rename_i hd;obtain⟨t',τ,h1,h2⟩:=ih h.2;exact⟨t',τ,(PS.le.set hd h.1).trans h1,h2⟩
   .exact h.elim
  .exact h.elim
 |z id t ih=>
  simp only[qo]at h;split at h
  .exact ⟨_,σ,PS.le.refl σ,h⟩
  split at h
  .rename_i b hb;split at h
   .rename_i e he;obtain⟨t',τ,h1,h2⟩:=ih h;exact⟨t',τ,(PS.le.freeze id hb he).trans h1,h2⟩
   .exact h.elim
  .exact h.elim
 |y s id nl T sz el t ih=>
  simp only[qo]at h;split at h
  .exact ⟨_,σ,PS.le.refl σ,h⟩
  split at h
  .rename_i hb hg;split at h
   .rename_i hn;obtain⟨t',τ,h1,h2⟩:=ih h;exact⟨t',τ,(PS.le.UC s id hb hg (λe=>by rw[e]at hn;simpa using hn)).trans h1,h2⟩
   .exact h.elim
  .exact h.elim
 |x hf=>exact hf.elim
 |_=>exact⟨_,σ,PS.le.refl σ,h⟩
def afE{υ:PS}{l:List (Nat×PV)}{r:R}(h:(LI υ l r).ok):vg υ l/\r.ok:=by
 induction l with
 |nil=>exact⟨trivial,h⟩
 |cons x l ih=>obtain⟨d,q⟩:=x;exact⟨⟨h.1,(ih h.2).1⟩,(ih h.2).2⟩
def Vi{υ:PS}{l:List (Nat×Bx)}{r:R}(h:(EU υ l r).ok):ue υ l/\r.ok:=by
 induction l with
 |nil=>exact⟨trivial,h⟩
 |cons x l ih=>
  obtain⟨d,q⟩:=x;simp only[EU]at h;split at h
  .rename_i b hb;exact⟨⟨⟨b,hb,h.1⟩,(ih h.2).1⟩,(ih h.2).2⟩
  .exact h.elim
def Th{υ σ:PS}{r:R}(h:(GX υ σ r).ok):PS.le υ σ/\r.ok:=by
 unfold GX at h;split at h
 .rename_i hc;simp only[bS,eW,beq_iff_eq]at hc;obtain⟨⟨h1,h2⟩,h3⟩:=hc;obtain⟨h4,h5⟩:=afE h;obtain⟨h6,h7⟩:=Vi h5;refine⟨?_,h7⟩;rcases h2 with h2|h2
  .exact PS.le.aa5 (lQ.1 h1) h2 h3 h4 h6
  .exact PS.le.oA (lQ.1 h1) h2 h3 h4 h6
 .exact h.elim
def aeK(hT:lE P T){w0:World}{B:Nat->Prop}{a:Act}{w:World}{L:Lk}(g:Gd P K w0 B){us:List (Oper×jV)}{τ:PS}{Q:Exit->Act->World->Prop}(h:ug P K T ops us σ τ)(ho:∀ x,x ∈ us->∀ q,q ∈ x.2.jo->q)
 (r:iZ w0 B σ a w L) (hq:∀ a' w' L',iZ w0 B τ a' w' L'->Q .normal a' w'):wpList P ops Q (us.map (·.1)) a w:=by
 induction us generalizing σ a w L with
 |nil=>exact hq a w L (r.oP h)
 |cons x us ih=>
  obtain⟨⟨O,h1⟩,h2⟩:=h;rw[eO];unfold wpList;rcases N8 hT g r h1 (ho x aH) (wpList P ops Q (us.map (·.1))) Q (λa' w' L' hr=>ih h2 (λy hy=>ho y (by simp[hy])) hr)with⟨p1,p2⟩|⟨p1,p2⟩
  .rw [aZ p1];exact .inl p2
  .rw [aY (by rw[p1];simp)];exact p2
def ad1(hT:lE P T)(hm:P.follows .mixedOrders=true){w0:World}{B:Nat->Prop}{a:Act}{w:World}{L:Lk}(g:Gd P K w0 B){id:Nat}{draw:Bool}{us:List (Oper×jV)}{τ:PS}{Q:Exit->Act->World->Prop}
 (h:ug P K T ops us σ τ) (hl:us.map (·.1)=ops.toList) (ho:∀ x,x ∈ us->∀ q,q ∈ x.2.jo->q) (hp:(!draw||BT ops 0 us)=true) (r:iZ w0 B σ a w L)
 (hq:∀ a' w' L',iZ w0 B τ a' w' L'->Q .normal a' w'):(Code.region id ops draw).wp P Q a w:=by
 cases draw with
 |false=>exact wp_region_list (by rw[<-hl];exact aeK hT g h ho r hq)
 |true=>
  obtain⟨R,r1,r2,r3⟩:=abd hl (by simpa using hp);refine wp_region_any hm (UF hT g hq ops.size (Array.replicate ops.size false) R σ a w.drew L r2 aH r3 (λx hx=>ho x.2 ?_) (by rw[r1];exact h) r.drew);rw[<-r1];exact dk.2 ⟨x,hx,rfl⟩
def ae6{c:Code}{t:Tr P K}{k:Ex->PS->Tr P K->R}(h:(LC c σ t k).ok):Sp P K c σ (λe τ=>∃ t',(k e τ t').ok):=by
 unfold LC at h;split at h
 .obtain ⟨h1,h2,h3⟩:=Th h;exact Sp.pre h1 (h2.mono λe τ ⟨q1,q2⟩=>by subst q1 q2;exact⟨_,h3⟩)
 .exact h.elim
def Ex.aeL{a b:Ex}(h:Ex.oP a b=true):a=b:=by
 cases a<;>cases b<;>first|rfl|(cases h;done)|exact congrArg Ex.exit (lQ.1 h)
def NX{e e':Ex}{τ υ:PS}{t:Tr P K}(h:(CH e τ e' υ t).ok):e'=e/\PS.le υ τ:=by
 unfold CH at h;split at h
 .rename_i he;exact⟨Ex.aeL he,(Th h).1⟩
 .exact h.elim
def QH{c:Code}{cb:Nat}{g:PS->Tr P K->(Ex->PS->Tr P K->R)->R}(hg:∀ σ t k,(g σ t k).ok->Sp P K c σ (λe τ=>∃ t',(k e τ t').ok)){σ:PS}{t:Tr P K}{k:Ex->PS->Tr P K->R}(h:(jn cb g σ t k).ok):
 Sp P K c σ (λe τ=>∃ t',(k e τ t').ok):=by
 unfold jn at h;split at h
 .rename_i c' τ tj t;split at h
  .refine (hg _ _ _ h.1).post λe υ ⟨t',ht⟩=>?_
   obtain⟨he,hl⟩:=NX ht;exact⟨τ,hl,t,by rw[he];exact h.2⟩
  .exact hg _ _ _ h
 .exact hg _ _ _ h
def uh(P:Program)(K:World->Prop)(b:Code)(σ:PS)(Q:Ex->PS->Prop):Prop:=
 ∀ (w0:World) (B:Nat->Prop) (a:Act) (w:World) (L:Lk),Gd P K w0 B->iZ w0 B σ a w L->∀ bf k cs,
  ∃ e a' w',(∃ ex τ L',e=Ex.to ex/\Q ex τ/\iZ w0 B τ a' w' L')/\Arrives P (lone (bf.at a (.code b :: .inLoop b::k)) cs w) bf k cs e a' w'
def uh.loop{b:Code}{σ:PS}{Q:Ex->PS->Prop}(h:uh P K b σ Q):Sp P K (.loop b) σ Q:=by
 intro w0 B a w L g r bf k cs;obtain⟨e,a',w',hq,uy⟩:=h w0 B a w L g r bf k cs;exact⟨e,a',w',hq,.of_steps (.one step_loop) uy⟩
def uh.pre{b:Code}{σ τ:PS}{Q:Ex->PS->Prop}(h:PS.le σ τ)(k:uh P K b τ Q):uh P K b σ Q:=λw0 B a w L g r=>
 let⟨L',r'⟩:=h w0 B a w L (λb hb=>(g.hB b hb).1) r;k w0 B a w L' g r'
def uh.step{b:Code}{σ:PS}{Q:Ex->PS->Prop}(h:Sp P K b σ (λe τ=>(e = .normal/\uh P K b τ Q)\/(e ≠ .normal/\Q e τ))):uh P K b σ Q:=by
 intro w0 B a w L g r bf k cs;obtain⟨e,a₁,w₁,⟨ex,υ,L2,rfl,hq,mW⟩,uy⟩:=h w0 B a w L g r bf (.inLoop b::k) cs;rcases hq with⟨rfl,hs⟩|⟨kG,hq⟩
 .obtain ⟨e₂,a₂,w₂,JS,Jw⟩:=hs w0 B a₁ w₁ L2 g mW bf k cs;exact⟨e₂,a₂,w₂,JS,.of_steps (Steps.trans uy (.one step_inLoop)) Jw⟩
 .cases ex with
  |normal=>exact absurd rfl kG
  |exit i=>exact⟨_,a₁,w₁,⟨.exit i,υ,L2,rfl,hq,mW⟩,.pass (x:=.inLoop b) rfl (λ_ _=>.inl (by simp[Ex.to])) uy⟩
  |ret=>exact⟨_,a₁,w₁,⟨.ret,υ,L2,rfl,hq,mW⟩,.pass (x:=.inLoop b) rfl (λ_ _=>.inl (by simp[Ex.to])) uy⟩
def IV(hT:lE P T)(hm:P.follows .mixedOrders=true){c:Code}{σ:PS}{t:Tr P K}{k:Ex->PS->Tr P K->R}(h:(s9 T c σ t k).ok):Sp P K c σ (λe τ=>∃ t',(k e τ t').ok):=by
 induction c generalizing σ t k with
 |skip=>exact λw0 B a w L g r=>wp_skip ⟨.normal,_,L,rfl,⟨t,h⟩,r⟩
 |region id ops d=>
  obtain⟨vs,τ,t',h1,h2,h3,h4⟩:=acZ h;split at h4
  .rename_i hp;simp only[List.append_nil,List.reverse_reverse]at hp;exact λw0 B a w L g r=>ad1 hT hm g h1 h2 h3 hp r λa' w' L' hr=>⟨.normal,τ,L',rfl,⟨t',h4⟩,hr⟩
  .exact h4.elim
 |seq x y J5 J6=>
  intro w0 B a w L g r;refine wp_seq (Code.wp_mono ?_ (J5 h w0 B a w L g r));rintro ex a' w' ⟨e1,τ1,L',rfl,⟨t',ht⟩,hr⟩;cases e1 with
  |normal=>exact J6 ht w0 B a' w' L' g hr
  |exit i=>exact⟨.exit i,τ1,L',rfl,⟨t',ht⟩,hr⟩
  |ret=>exact⟨.ret,τ1,L',rfl,⟨t',ht⟩,hr⟩
 |cond c x y J5 J6=>
  obtain⟨t1,τ,hle,h1⟩:=Aq h;refine Sp.pre hle (QH (λσ t k h=>?_) h1);obtain⟨t1,τ,hle,h1⟩:=Aq h;refine Sp.pre hle ?_;split at h1
  .rename_i hc;intro w0 B a w L g r;have hv:=r.op c;rw[hc]at hv;exact wp_cond_true (iB.jX hv) (J5 h1 w0 B a w L g r)
  .rename_i hc;intro w0 B a w L g r;have hv:=r.op c;rw[hc]at hv;exact wp_cond_false (iB.jX hv) (J6 h1 w0 B a w L g r)
  .exact h1.elim
 |block id b ih=>
  obtain⟨t1,τ,hle,h1⟩:=Aq h;refine Sp.pre hle (QH (λσ t k h=>?_) h1);intro w0 B a w L g r;refine wp_block (Code.wp_mono ?_ (ih h w0 B a w L g r));rintro ex a' w' ⟨e1,τ1,L',rfl,⟨t',ht⟩,hr⟩;cases e1 with
  |normal=>exact⟨.normal,_,L',rfl,⟨t',ht⟩,hr⟩
  |ret=>exact⟨.ret,_,L',rfl,⟨t',ht⟩,hr⟩
  |exit i=>
   simp only at ht;show Exit.inBlock id _ (.exit i) a' w';split at ht
   .rename_i hi;have hi:=lQ.1 hi;subst hi;simp only[Exit.inBlock,bD];exact⟨.normal,_,L',rfl,⟨t',ht⟩,hr⟩
   .rename_i hi;have hi:i≠id:=λe=>hi (lQ.2 e)
    simp only[Exit.inBlock,hi,bq];exact⟨.exit i,_,L',rfl,⟨t',ht⟩,hr⟩
 |label l=>exact λw0 B a w L g r=>wp_label ⟨.normal,_,L,rfl,⟨t,h⟩,r⟩
 |scope b ih=>
  intro w0 B a w L g r;refine wp_scope_straight (Code.wp_mono ?_ (ih h w0 B a w L g r));rintro ex a' w' ⟨e1,τ1,L',rfl,⟨t',ht⟩,hr⟩;cases e1 with
  |normal=>exact⟨.normal,τ1,L',rfl,⟨t',ht⟩,hr⟩
  |ret=>exact⟨.ret,τ1,L',rfl,⟨t',ht⟩,hr⟩
  |exit i=>exact⟨.exit i,τ1,L',rfl,⟨t',ht⟩,hr⟩
 |exit id=>
  obtain⟨t1,τ,hle,h1⟩:=Aq h;exact Sp.pre hle λw0 B a w L g r=>wp_exit ⟨.exit id,_,L,rfl,⟨t1,h1⟩,r⟩
 |ret=>
  obtain⟨t1,τ,hle,h1⟩:=Aq h;exact Sp.pre hle λw0 B a w L g r=>wp_ret ⟨.ret,_,L,rfl,⟨t1,h1⟩,r⟩
 |loop b ih=>
  obtain⟨t1,τ,hle,h1⟩:=Aq h;refine Sp.pre hle ?_;split at h1
  .rename_i n t;clear hle h;refine uh.loop ?_
   induction n generalizing τ t with
   |zero=>exact h1.elim
   |succ n ihn=>
    obtain⟨t2,τ2,hle,h1⟩:=Aq h1;refine uh.pre hle (uh.step ((ih h1).mono λe υ ⟨t',ht⟩=>?_));cases e with
    |normal=>exact .inl ⟨rfl,ihn _ _ ht⟩
    |exit i=>exact .inr ⟨aH,t',ht⟩
    |ret=>exact .inr ⟨aH,t',ht⟩
  .exact ae6 h1
 |_=>exact h.elim
def Sp.tr(hT:lE P T)(hm:P.follows .mixedOrders=true){c:Code}{σ τ:PS}{e:Ex}(t:Tr P K)(h:s9 T c σ t (CH e τ)=t.ex λt=>B9 τ t .nil):
 Sp P K c σ (λe' τ'=>e'=e/\τ'=τ):=by
 have hk:=Tr.I0 (fin:=λt=>B9 τ t .nil) (λt=>LF trivial) t;rw[<-h]at hk;refine(IV hT hm hk).post λe' υ ⟨t',ht⟩=>?_
 obtain⟨he,hl⟩:=NX ht;exact⟨τ,hl,he,rfl⟩
def Oo(T:List TI)(fn:Func)(jL:E)(e:Ex)(τ:PS)(_:Tr P K):R:=match e with
 | .exit _=>.ja
 |_=>match GK T fn τ with
  |some r=>.a (E.le r jL) .nil
  |none=>.ja
def Lc(T:List TI)(fn:Func)(nl:Bool)(args:List E)(jL:E)(t:Tr P K):R:=match fn.body with
 |some c=>if Nat.ble args.length fn.ntmps then s9 T c (yy fn nl args) t (Oo T fn jL)else .ja
 |none=>.ja
def PC.LN(hT:lE P T)(hm:P.follows .mixedOrders=true)(hp:∀ w w',K w->Below w.heap.size w w'->K w'){f:FuncId}{fn:Func}{args:List E}{jL:E}(uA:∀ (vs:Array Value) (w:World),(callFunc f vs).run P w = .ok (.enter f vs) w)
 (hf:P.funcs[f]? = some fn) (nl:Bool) (t:Tr P K) (h:Lc T fn nl args jL t=t.ex λ_=>.a (E.le jL jL) .nil):PC P K f args jL:=by
 have hk:=Tr.I0 (fin:=λ_=>.a (E.le jL jL) .nil) (λt=>⟨E.le.refl jL,trivial⟩) t;rw[<-h]at hk;unfold Lc at hk;split at hk
 .rename_i c hb;split at hk
  .rename_i hn;refine PC.Kx hT hm hp uA hf hb (cK hn) nl ((IV hT hm hk).mono λe τ ⟨t',ht⟩=>?_);unfold Oo at ht;split at ht
   .exact ht.elim
   .rename_i kG;split at ht
    .rename_i r hr;refine⟨?_,r,hr,ht.1⟩;cases e with
     |normal=>exact .inr rfl
     |ret=>exact .inl rfl
     |exit i=>exact absurd rfl (kG i)
    .exact ht.elim
  .exact hk.elim
 .exact hk.elim
def On(fn:Func)(b:Bx)(e:Ex)(τ:PS)(_:Tr P K):R:=match e with
 | .exit _=>.ja
 |_=>match fn.results.toList with
  | [.tmp t]=>match τ.get t with
   | .own id=>match τ.bo id with
    |some c=>.a (Bx.le c b) .nil
    |none=>.ja
   |_=>.ja
  |_=>.ja
def Lb(T:List TI)(fn:Func)(args:List E)(b:Bx)(t:Tr P K):R:=match fn.body with
 |some c=>if Nat.ble args.length fn.ntmps then s9 T c (yy fn true args) t (On fn b)else .ja
 |none=>.ja
def sW.LN(hT:lE P T)(hm:P.follows .mixedOrders=true)(hp:∀ w w',K w->Below w.heap.size w w'->K w'){f:FuncId}{fn:Func}{args:List E}{nl:Bool}{T0:TypeId}{n sz:Nat}{el:Nat->Nat->E}(uA:∀ (vs:Array Value) (w:World),(callFunc f vs).run P w = .ok (.enter f vs) w)
 (hf:P.funcs[f]? = some fn) (t:Tr P K) (h:Lb T fn args (.row nl T0 n sz el) t=t.ex λ_=>.a (Bx.le (.row nl T0 n sz el) (.row nl T0 n sz el)) .nil):sW P K f args nl T0 n sz el:=by
 have hk:=Tr.I0 (fin:=λ_=>.a (Bx.le (.row nl T0 n sz el) (.row nl T0 n sz el)) .nil) (λt=>⟨Bx.le.refl _,trivial⟩) t;rw[<-h]at hk;unfold Lb at hk;split at hk
 .rename_i c hb;split at hk
  .rename_i hn;refine sW.Kx hT hm hp uA hf hb (cK hn) true ((IV hT hm hk).mono λe τ ⟨t',ht⟩=>?_);unfold On at ht;split at ht
   .exact ht.elim
   .rename_i kG;split at ht
    .rename_i t0 hr;split at ht
     .rename_i id hg;split at ht
      .rename_i c' hc;refine⟨?_,t0,id,c',hr,hg,hc,λbs br L w hk=>ht.1.2 _ _ _ _ _ hk⟩;cases e with
       |normal=>exact .inr rfl
       |ret=>exact .inl rfl
       |exit i=>exact absurd rfl (kG i)
      .exact ht.elim
     .exact ht.elim
    .exact ht.elim
  .exact hk.elim
 .exact hk.elim
def Sp.kY{b:Code}{e:Ex}{τ:PS}(f:Nat->PS)(lo hi:Nat)(h0:lo<=hi)(go:∀ x,(lo<=x/\x<=hi)->x<hi->Sp P K b (f x) (λe' υ=>e' = .normal/\υ=f (x+1)))
 (out:(lo<=hi/\hi<=hi)->Sp P K b (f hi) (λe' υ=>e'=e/\υ=τ)) (he:e ≠ .normal):Sp P K (.loop b) (f lo) (λe' υ=>e'=e/\υ=τ):=by
 refine Sp.Yy f (λx=>lo<=x/\x<=hi) (λx=>hi-x) (λx hx=>?_) lo ⟨bd _,h0⟩ (PS.le.refl _);rcases Nat.lt_or_eq_of_le hx.2 with iA|heq
 .exact Sp.Yz (x+1) (go x hx iA) ⟨aC,aC⟩ aC (PS.le.refl _)
 .subst heq;exact Sp.YA (out hx) he (PS.le.refl _)
def iu(z:Int)(h:-9223372036854775808<=z/\z<=9223372036854775807):Tr P K->Tr P K:=.a (p:=jY .i64 z) h
def AA(z:Int)(h:0<=z/\z<=18446744073709551615):Tr P K->Tr P K:=.a (p:=jY .u64 z) h
def iX(z:Int)(n:Nat)(h:0<=z/\z<n):Tr P K->Tr P K:=.a h
def tB(d:Nat){a b:Bool}(h:a=b):Tr P K->Tr P K:=.o d (PV.le.bool h)
def ah(d:Nat)(a:Bool)(h:a=true):Tr P K->Tr P K:=tB d h
def ai(d:Nat)(a:Bool)(h:a=false):Tr P K->Tr P K:=tB d h
def tT(d:Nat)(p:Prop)[Decidable p](h:p):Tr P K->Tr P K:=.o d (PV.le.bool (bh h))
def tF(d:Nat)(p:Prop)[Decidable p](h:¬p):Tr P K->Tr P K:=.o d (PV.le.bool (bg h))
def rQ(p q:E)(h:p=q):Tr P K:=.r (E.le.iH h)
def rR(q:E){p:E}(h:E.le p q):Tr P K:=.r h
def ae(l:List (Tr P K->Tr P K))(t:Tr P K):Tr P K:=l.foldr (λf t=>f t) t
def af(l:List (Tr P K->Tr P K)):Tr P K:=ae l .nil
end
end Go.Proofs.YtkjkcjhacddojaaGreatDoor.Pu
namespace Go.Proofs.YtkjkcjhacddojaaGreatDoor
open Go.RowKit Fp Pu
def tr(nl:Bool){f:FuncId}{fn:Func}{args:List E}{jL:E}(uA:∀ (vs:Array Value) (w:World),(callFunc f vs).run prog w = .ok (.enter f vs) w)
 (hf:prog.funcs[f]? = some fn) (t:Tr prog Tb) (h:Lc TT fn nl args jL t=t.ex λ_=>.a (E.le jL jL) .nil):gU f args jL:=
 PC.LN y9 mixed Mf uA hf nl t h
def ag(args:List E){f:FuncId}{ko:E}(h:gU f args ko):Tr prog Tb->Tr prog Tb:=.c h
def ak{f:FuncId}{fn:Func}{args:List E}{jL:E}(uA:∀ (vs:Array Value) (w:World),(callFunc f vs).run prog w = .ok (.enter f vs) w)
 (hf:prog.funcs[f]? = some fn) (t:Tr prog Tb) (h:Lc TT fn true args jL t=t.ex λ_=>.a (E.le jL jL) .nil:=by kernel_rfl):gU f args jL:=tr true uA hf t h
def an{f:FuncId}{fn:Func}{args:List E}{jL:E}(uA:∀ (vs:Array Value) (w:World),(callFunc f vs).run prog w = .ok (.enter f vs) w)
 (hf:prog.funcs[f]? = some fn) (t:Tr prog Tb) (h:Lc TT fn false args jL t=t.ex λ_=>.a (E.le jL jL) .nil:=by kernel_rfl):gU f args jL:=tr false uA hf t h
def jg{c:Code}{σ τ:PS}{e:Ex}(t:Tr prog Tb)(h:s9 TT c σ t (CH e τ)=t.ex λt=>B9 τ t .nil):
 Sp prog Tb c σ (λe' τ'=>e'=e/\τ'=τ):=Sp.tr y9 mixed t h
abbrev kU(k:Nat)(fn:Func)(σ:PS)(e:Ex)(τ:PS):Prop:=Sp prog Tb (.loop (VA k fn)) σ (λe' τ'=>e'=e/\τ'=τ)
end Go.Proofs.YtkjkcjhacddojaaGreatDoor
namespace Go.Proofs.YtkjkcjhacddojaaGreatDoor.Fp
section
variable {a b:Dy} {k:Int}
end
def Zr{m gm p:Nat}{e ge K:Int}(hp:1<=p)(hg:ib gm<=p)(qQ:-16384<=ge)(k1:K<=e)(k2:K<=ge)
 (h:gm*2^(ge-K).toNat<=m*2^(e-K).toNat):gm*2^(ge-K).toNat<=kp m e false p false*2^(e+jr m e p-K).toNat:=by
 have hq:kp m e false p false=m/2^jr m e p:=by unfold kp;simp
 rw[hq];have hm:=cC m (2^jr m e p);have hr:=bC m (bn (n:=jr m e p) (aE:0<2));obtain⟨k,hk⟩:∃ k,k=jr m e p:=⟨_,rfl⟩
 rw[<-hk]at hm hr ⊢;have e1:(e+(k:Int)-K).toNat=k+(e-K).toNat:= aC ;rw[e1,bk];generalize hE:2^(e-K).toNat=E at *
 have Ji:0<E:=by rw[<-hE];exact bn aE 
 have hmE:m*E<(m/2^k+1)*(2^k*E):=by
  rw[<-bu];refine di ?_ Ji;rw[bR,bT,bB];omega
 by_cases hc:e+k<=ge
 .
  have e2:(ge-K).toNat=(ge-(e+k)).toNat+(k+(e-K).toNat):= aC ;rw[e2,bk,bk 2 k,hE]at h ⊢;rw[<-bu]at h ⊢;generalize gm*2^(ge-(e+k)).toNat=g at *
  have:g<m/2^k+1:=by
   apply bN;intro h';have:=bI (2^k*E) (aC:m/2^k+1<=g);omega
  exact bI _ aC 
 .by_cases pI:k=0
  .subst pI;rw[cB,fc,bT];exact h
  .
   have hb:(ib m:Int)-p=k:=by unfold jr at hk;omega
   have vK:m≠0:=by intro h0;rw[h0]at hb;simp[ib]at hb;omega
   have h1:=rZ vK;have h2:2^(ib m-1-k)<=m/2^k:=by
    rw[cY (bn aE),<-bk];exact bj (bH aE (by have:=np vK;omega)) h1
   have h3:gm<2^p:=kV.1 hg;refine bj (bI _ (dq h3)) (bj ?_ (bI _ h2));rw[<-hE,<-bk,<-bk,<-bk];exact bH aE aC 
def ON{m gm p:Nat}{e ge K:Int}(hp:1<=p)(hg:ib gm<=p)(qQ:-16384<=ge)(k1:K<=e)(k2:K<=ge)
 (h:m*2^(e-K).toNat<=gm*2^(ge-K).toNat):kp m e false p true*2^(e+jr m e p-K).toNat<=gm*2^(ge-K).toNat:=by
 have PU:kp m e false p false=m/2^jr m e p:=by unfold kp;simp
 have C9:kp m e false p true=m/2^jr m e p+if m%2^jr m e p≠0 then 1 else 0:=by unfold kp;simp
 have hm:=cC m (2^jr m e p);obtain⟨k,hk⟩:∃ k,k=jr m e p:=⟨_,rfl⟩
 rw[C9];rw[<-hk]at hm ⊢;have e1:(e+(k:Int)-K).toNat=k+(e-K).toNat:= aC ;rw[e1,bk];generalize hE:2^(e-K).toNat=E at *
 have Ji:0<E:=by rw[<-hE];exact bn aE 
 by_cases hr:m%2^k=0
 .rw [aY aC,bL,<-bu];refine bj (gn ?_) h;congr 1;rw[bB];omega
 .rw [aZ hr];have pI:k≠0:=by intro h0;rw[h0,cB,dJ]at hr;exact hr rfl
  have iA:m/2^k*(2^k*E)<gm*2^(ge-K).toNat:=by
   refine bM ?_ h;rw[<-bu];refine di ?_ Ji;rw[bB];omega
  by_cases hc:e+k<=ge
  .have e2:(ge-K).toNat=(ge-(e+k)).toNat+(k+(e-K).toNat):= aC ;have e3:gm*2^(ge-K).toNat=gm*2^(ge-(e+k)).toNat*(2^k*E):=by rw[e2,bk,bk 2 k,hE,bu]
   rw[e3]at iA ⊢;generalize gm*2^(ge-(e+k)).toNat=g at *
   have:m/2^k<g:=ahy iA;exact bI _ this
  .
   exfalso;have hb:(ib m:Int)-p=k:=by unfold jr at hk;omega
   have vK:m≠0:=by intro h0;rw[h0]at hr;simp at hr
   have h1:=rZ vK;have FF:=np vK;have h3:gm<2^p:=kV.1 hg;have h4:gm*2^(ge-K).toNat<=2^(ib m-1)*E:=by
    refine bj (bI _ (dq h3)) ?_;rw[<-hE,<-bk,<-bk];exact bH aE aC 
   have h5:2^(ib m-1-k)<=m/2^k:=by
    rw[cY (bn aE),<-bk];exact bj (bH aE aC) h1
   have h6:2^(ib m-1)*E<=m/2^k*(2^k*E):=by
    rw[<-bu];refine bI _ ?_;have:=bI (2^k) h5;rw[<-bk]at this;exact bj (bH aE aC) this
   omega
def P2(k:Int):Rat:=(2:Rat)^k
def lV(k:Int):0<P2 k:=Rat.zpow_pos aE 
def oE(a b:Int):P2 (a+b)=P2 a*P2 b:=Rat.zpow_add aE a b
def vh(n:Nat):P2 (n:Int)=((2^n:Nat):Rat):=by unfold P2;rw[Rat.zpow_natCast];simp
def Hu:P2 0=1:=by have:=vh 0;simpa using this
def Cl{e k:Int}(h:k<=e):P2 e=((2^(e-k).toNat:Nat):Rat)*P2 k:=by
 rw[<-vh,<-oE];congr 1;omega
def tJ{x y:Rat}(k:Int):x*P2 k<=y*P2 k↔x<=y:=
 ⟨λh=>ff h (lV k),λh=>cg h (bG (lV k))⟩
def sL{m n:Nat}{e f K:Int}(h1:K<=e)(h2:K<=f):(m:Rat)*P2 e<=(n:Rat)*P2 f↔m*2^(e-K).toNat<=n*2^(f-K).toNat:=by
 rw[Cl h1,Cl h2,<-eE,<-eE,tJ,<-c9,<-c9,dr]
def Dy.q(d:Dy):Rat:=((d.num d.e:Int):Rat)*P2 d.e
def wc{d:Dy}{k:Int}(h:pD d k):d.q=((d.num k:Int):Rat)*P2 k:=by
 unfold Dy.q;rcases h with h|h
 .rw [tL h,tL h];simp
 .rw [Gq h (cj _),Cl h,<-eE,ahi,dN]
def o9(a b:Dy):jj a b<=0↔a.q<=b.q:=by
 obtain⟨k,ka,kb⟩:∃ k:Int,k<=a.e/\k<=b.e:=⟨min a.e b.e,aC,aC⟩
 rw[qS (.inr ka) (.inr kb),wc (.inr ka),wc (.inr kb),tJ,dc]
def Gw(a b:Dy):(iN a b).q=a.q+b.q:=by
 obtain⟨k,ka,kb⟩:∃ k:Int,k<=a.e/\k<=b.e:=⟨min a.e b.e,aC,aC⟩
 rw[wc (EH (.inr ka) (.inr kb)),wc (.inr ka),wc (.inr kb),GY (.inr ka) (.inr kb),eF,Rat.add_mul]
def px(a:Dy):(jv a).q = -a.q:=by
 rw[wc (HW (.inr (cj a.e))),KM,fg,gq];rfl
def qq(s:Bool)(m:Nat)(e:Int):(canon s m e).q=if s then -((m:Rat)*P2 e)else(m:Rat)*P2 e:=by
 rw[wc (xF (cj e)),Am (cj e)];have:(e-e).toNat=0:= aC ;rw[this];cases s<;>simp[fg,gq,dN]
def py(a:Dy):a.q=if a.neg then -((a.m:Rat)*P2 a.e)else(a.m:Rat)*P2 a.e:=by
 unfold Dy.q Dy.num Dy.jD;have:(a.e-a.e).toNat=0:= aC ;rw[this];cases a.neg<;>simp[fg,gq,dN]
def BW(a b:Dy):(uW a b).q=a.q*b.q:=by
 unfold uW;rw[qq,py a,py b,oE,c9];cases a.neg<;>cases b.neg<;>simp<;>grind
def tR:jt.q=0:=by rw[py];simp[jt]
def adm{a b:Dy}(ha:a.mf)(hb:b.mf)(h:a.q=b.q):a=b:=by
 obtain⟨k,ka,kb⟩:∃ k:Int,k<=a.e/\k<=b.e:=⟨min a.e b.e,aC,aC⟩
 refine NW ha hb (.inr ka) (.inr kb) ?_;rw[wc (.inr ka),wc (.inr kb)]at h;have h1:=(tJ (x:=((a.num k:Int):Rat)) (y:=((b.num k:Int):Rat)) k).1 (by rw[h];exact bV);have h2:=(tJ (x:=((b.num k:Int):Rat)) (y:=((a.num k:Int):Rat)) k).1 (by rw[h];exact bV);rw[dc]at h1 h2;omega
def tO(n:Int):(iK n).q=(n:Rat):=by
 unfold iK;rw[wc (k:=0) (HI (cj 0)),KL (cj 0),Hu];simp
def xq(d:Dy):0<=(lg d).q/\d.q<=(lg d).q /\ -d.q<=(lg d).q/\((lg d).q=d.q\/(lg d).q = -d.q):=by
 have h:(lg d).q=(d.m:Rat)*P2 d.e:=by rw[py];rfl
 have h0:0<=(d.m:Rat)*P2 d.e:=bQ cM (bG (lV _));rw[h,py d];cases d.neg<;>simp<;>grind
def rm(d:Dy):(0<d.iJ↔0<d.q)/\(d.iJ<0↔d.q<0):=by
 have h:=lV d.e;have hm:d.m≠0->0<(d.m:Rat)*P2 d.e:=λh0=>eh (fG.2 aC) h
 rw[py];unfold Dy.iJ;by_cases h0:d.m=0
 .simp [h0]
 .have:=hm h0;rw[aY h0];cases d.neg<;>simp<;>grind
def D4(a b:Dy):a.q<=(iQ a b).q/\b.q<=(iQ a b).q/\((iQ a b).q=a.q\/(iQ a b).q=b.q):=
 ⟨(o9 _ _).1 (BO a b),(o9 _ _).1 (Q6 a b),by unfold iQ;split;exact .inr rfl;exact .inl rfl⟩
def Ar(a b:Dy):(iT a b).q<=a.q/\(iT a b).q<=b.q/\((iT a b).q=a.q\/(iT a b).q=b.q):=
 ⟨(o9 _ _).1 (DG a b),(o9 _ _).1 (Q7 a b),by unfold iT;split;exact .inr rfl;exact .inl rfl⟩
def GM(p:Nat)(g:Rat):Prop:=∃ (m:Nat) (e:Int),ib m<=p /\ -16384<=e/\(ib m:Int)+e<=16384/\g=(m:Rat)*P2 e
def G(p:Nat)(g:Rat):Prop:=GM p g\/GM p (-g)
def GM.DQ{p:Nat}{g:Rat}(h:GM p g):0<=g:=by
 obtain⟨m,e,_,_,_,rfl⟩:=h;exact bQ cM (bG (lV _))
def wo(p:Nat):GM p 0:=⟨0,0,by simp[qO],aC,by simp[qO],aH⟩
def G.neg{p:Nat}{g:Rat}(h:G p g):G p (-g):=by
 rcases h with h|h
 .exact .inr (by rw[eG];exact h)
 .exact .inl h
def G.pos{p:Nat}{g:Rat}(h:G p g)(h0:0<=g):GM p g:=by
 rcases h with h|h
 .exact h
 .have:=h.DQ;have:g=0:= aK ;rw[this];exact wo p
def MM(k:Nat):ib (2^k)=k+1:=wH (bd _) (gh aE aC)
def xH:ib 1=1:=MM 0
section
variable {m p:Nat} {e:Int}
def TM(hp:1<=p)(gY:p<=4096)(ho:lk m e false p false=true):
 GM p (((2^p-1:Nat):Rat)*P2 (16384-p))/\((2^p-1:Nat):Rat)*P2 (16384-p)<=(m:Rat)*P2 e/\∀ g,GM p g->g<=((2^p-1:Nat):Rat)*P2 (16384-p):=by
 have uJ:2<=2^p:=by
  have:=bH (n:=2) aE hp;omega
 have hb:ib (2^p-1)=p:=by
  obtain⟨j,rfl⟩:∃ j,p=j+1:=⟨p-1,aC⟩
  have h2:2^(j+1)=2^j*2:=bw _ _;have h3:=bn (n:=j) (aE:0<2);exact wH aC aC 
 refine⟨⟨_,_,gn hb,aC,aC,rfl⟩,?_,?_⟩
 .obtain ⟨c1,c2⟩:=E9 m e p;unfold lk at ho;simp only[bS,cI]at ho;obtain⟨o1,o2⟩:=ho;have hq:=rZ o1;have FF:=np o1;obtain⟨K,k1,k2⟩:∃ K:Int,K<=e/\K<=16384-p:=⟨min e (16384-p),aC,aC⟩
  rw[sL k2 k1];have h1:2^(ib (kp m e false p false)-1)*2^jr m e p<=m:=bj (bI _ hq) c1;have h2:=bI (2^(e-K).toNat) h1;rw[<-bk,<-bk]at h2;refine bj (bI _ (eA _ _)) (bj ?_ h2);rw[<-bk];exact bH aE aC 
 .rintro g ⟨gm,ge,b1,b2,b3,rfl⟩;by_cases hc:ge<=16384-p
  .have:gm<2^p:=kV.1 b1;rw[sL (K:=ge) (cj _) hc];have e0:(ge-ge).toNat=0:= aC ;rw[e0,cB,ch];exact bj (aC:gm<=2^p-1) (fR _ (bn aE))
  .rw [sL (K:=16384-p) aC (cj _)];have e0:((16384:Int)-p-(16384-p)).toNat=0:= aC ;rw[e0,cB,ch];have h1:gm<2^(16384-ge).toNat:=by
    by_cases h0:gm=0
    .rw [h0];exact bn aE 
    .exact kV.1 aC 
   have h2:=di h1 (bn (n:=(ge-(16384-p)).toNat) (aE:0<2));by_cases hg:ge<=16384
   .rw [<-bk,show(16384-ge).toNat+(ge-(16384-(p:Int))).toNat=p by omega]at h2;omega
   .have:gm=0:=by
     rw[show(16384-ge).toNat=0 by omega]at h1;simpa using h1
    rw[this,cH];omega
def TL(hp:1<=p)(ho:¬lk m e false p false=true):
 GM p (((kp m e false p false:Nat):Rat)*P2 (e+jr m e p))/\((kp m e false p false:Nat):Rat)*P2 (e+jr m e p)<=(m:Rat)*P2 e /\
 ∀ g,GM p g->g<=(m:Rat)*P2 e->g<=((kp m e false p false:Nat):Rat)*P2 (e+jr m e p):=by
 obtain⟨c1,c2⟩:=E9 m e p;have hk:-16384<=e+(jr m e p:Int):=by unfold jr;omega
 refine⟨?_,?_,?_⟩
 .by_cases h0:kp m e false p false=0
  .rw [h0];simpa using wo p
  .have hq:kp m e false p false<2^p:=by
    have:=NK m e p;unfold kp;simpa using this
   unfold lk at ho;simp only[cP,h0,ew,fF,e9,cI]at ho;exact⟨_,_,kV.2 hq,hk,aC,rfl⟩
 .rw [sL (K:=e) aC (cj _)];rw[show(e-e).toNat=0 by omega,show(e+(jr m e p:Int)-e).toNat=jr m e p by omega,cB,ch];exact c1
 .rintro g ⟨gm,ge,b1,b2,b3,rfl⟩ h;obtain⟨K,k1,k2⟩:∃ K:Int,K<=e/\K<=ge:=⟨min e ge,aC,aC⟩
  rw[sL k2 k1]at h;rw[sL (K:=K) k2 aC];exact Zr hp b1 b2 k1 k2 h
def M7(hp:1<=p)(ho:lk m e false p true=true)(g:Rat)(hg:GM p g):¬(m:Rat)*P2 e<=g:=by
 obtain⟨gm,ge,b1,b2,b3,rfl⟩:=hg;intro h;obtain⟨K,k1,k2⟩:∃ K:Int,K<=e/\K<=ge:=⟨min e ge,aC,aC⟩
 rw[sL k1 k2]at h;have h:=ON hp b1 b2 k1 k2 h;unfold lk at ho;simp only[bS,cI]at ho;obtain⟨o1,o2⟩:=ho;have hq:=rZ o1;have FF:=np o1;have h3:gm<2^ib gm:=qH gm;have h4:=di h3 (bn (n:=(ge-K).toNat) (aE:0<2));have h5:=bI (2^(e+(jr m e p:Int)-K).toNat) hq;rw[<-bk]at h4 h5;have h6:2^(ib gm+(ge-K).toNat)<=2^(ib (kp m e false p true)-1+(e+(jr m e p:Int)-K).toNat):=bH aE aC;omega
def M6(hp:1<=p)(ho:¬lk m e false p true=true):
 GM p (((kp m e false p true:Nat):Rat)*P2 (e+jr m e p))/\(m:Rat)*P2 e<=((kp m e false p true:Nat):Rat)*P2 (e+jr m e p) /\
 ∀ g,GM p g->(m:Rat)*P2 e<=g->((kp m e false p true:Nat):Rat)*P2 (e+jr m e p)<=g:=by
 obtain⟨c1,c2⟩:=E9 m e p;have hk:-16384<=e+(jr m e p:Int):=by unfold jr;omega
 refine⟨?_,?_,?_⟩
 .by_cases h0:kp m e false p true=0
  .rw [h0];simpa using wo p
  .unfold lk at ho;simp only[cP,h0,ew,fF,e9,cI]at ho;rcases Nat.lt_or_eq_of_le (Nq m e false p true)with hq|hq
   .exact ⟨_,_,kV.2 hq,hk,aC,rfl⟩
   .rw [hq]at ho ⊢;rw[MM]at ho;refine⟨1,p+(e+jr m e p),by rw[xH];exact hp,aC,by rw[xH];omega,?_⟩;rw[oE (p:Int),vh p,show((1:Nat):Rat)=1 from rfl,eH]
 .rw [sL (K:=e) (cj _) aC];rw[show(e-e).toNat=0 by omega,show(e+(jr m e p:Int)-e).toNat=jr m e p by omega,cB,ch];exact c2
 .rintro g ⟨gm,ge,b1,b2,b3,rfl⟩ h;obtain⟨K,k1,k2⟩:∃ K:Int,K<=e/\K<=ge:=⟨min e ge,aC,aC⟩
  rw[sL k1 k2]at h;rw[sL (K:=K) aC k2];exact ON hp b1 b2 k1 k2 h
end
def Dn(p:Nat)(v:Rat)(D:Dy)(E:Int):Prop:=(E=0->G p D.q/\D.q<=v)/\∀ g,G p g->g<=v->E=0/\g<=D.q
def Up(p:Nat)(v:Rat)(D:Dy)(E:Int):Prop:=(E=0->G p D.q/\v<=D.q)/\∀ g,G p g->v<=g->E=0/\D.q<=g
def Dn.of{p:Nat}{v w:Rat}{D:Dy}{E:Int}(h:Dn p v D E)(k:∀ g,G p g->(g<=v↔g<=w)):Dn p w D E:=
 ⟨λe=>⟨(h.1 e).1,(k _ (h.1 e).1).1 (h.1 e).2⟩,λg hg hw=>h.2 g hg ((k g hg).2 hw)⟩
def Up.of{p:Nat}{v w:Rat}{D:Dy}{E:Int}(h:Up p v D E)(k:∀ g,G p g->(v<=g↔w<=g)):Up p w D E:=
 ⟨λe=>⟨(h.1 e).1,(k _ (h.1 e).1).1 (h.1 e).2⟩,λg hg hw=>h.2 g hg ((k g hg).2 hw)⟩
def Cz(neg:Bool)(m:Nat)(e:Int){p:Nat}(hp:1<=p)(gY:p<=4096):Dn p (canon neg m e).q (jB neg m e false p false) (ju neg m e false p false):=by
 have hv:0<=(m:Rat)*P2 e:=bQ cM (bG (lV _));rw[qq];cases neg
 .
  have hE:ju false m e false p false=0:=by unfold ju;simp
  rw[hE];unfold jB;simp only[bne_self_eq_false,bA,bq];by_cases ho:lk m e false p false=true
  .obtain ⟨t1,t2,t3⟩:=TM hp gY ho;rw[aZ ho];(first|unfold Dn|unfold Up);rw[qq];simp only[bA,bq];refine⟨λ_=>⟨.inl t1,t2⟩,λg hg hle=>⟨trivial,?_⟩⟩;by_cases h0:0<=g
   .exact t3 g (hg.pos h0)
   .have:=t1.DQ;grind
  .obtain ⟨t1,t2,t3⟩:=TL hp ho;rw[aY ho];(first|unfold Dn|unfold Up);rw[qq];simp only[bA,bq];refine⟨λ_=>⟨.inl t1,t2⟩,λg hg hle=>⟨trivial,?_⟩⟩;by_cases h0:0<=g
   .exact t3 g (hg.pos h0) hle
   .have:=t1.DQ;grind
 .unfold jB ju;simp only[Bool.bne_false,Bool.and_true,bD];by_cases ho:lk m e false p true=true
  .rw [aZ ho,aZ ho];refine⟨λh=>by simp at h,λg hg hle=>?_⟩;exact absurd (show(m:Rat)*P2 e <= -g by grind) (M7 hp ho _ (hg.neg.pos aK))
  .obtain ⟨t1,t2,t3⟩:=M6 hp ho;rw[aY ho,aY ho];(first|unfold Dn|unfold Up);rw[qq];simp only[bD];refine⟨λ_=>⟨.inr (by rw[eG];exact t1),aK⟩,λg hg hle=>⟨trivial,?_⟩⟩;have:=t3 (-g) (hg.neg.pos aK) aK 
   grind
def CA(neg:Bool)(m:Nat)(e:Int){p:Nat}(hp:1<=p)(gY:p<=4096):Up p (canon neg m e).q (jB neg m e false p true) (ju neg m e false p true):=by
 have hv:0<=(m:Rat)*P2 e:=bQ cM (bG (lV _));rw[qq];cases neg
 .unfold jB ju;simp only[Bool.bne_true,eu,Bool.and_true,bD,bA,bq];by_cases ho:lk m e false p true=true
  .rw [aZ ho,aZ ho];refine⟨λh=>by simp at h,λg hg hle=>?_⟩;exact absurd hle (M7 hp ho _ (hg.pos aK))
  .obtain ⟨t1,t2,t3⟩:=M6 hp ho;rw[aY ho,aY ho];(first|unfold Dn|unfold Up);rw[qq];simp only[bA,bq];exact⟨λ_=>⟨.inl t1,t2⟩,λg hg hle=>⟨trivial,t3 g (hg.pos aK) hle⟩⟩
 .have hE:ju true m e false p true=0:=by unfold ju;simp
  rw[hE];unfold jB;simp only[bne_self_eq_false,bA,bq,bD];by_cases ho:lk m e false p false=true
  .obtain ⟨t1,t2,t3⟩:=TM hp gY ho;rw[aZ ho];(first|unfold Dn|unfold Up);rw[qq];simp only[bD];refine⟨λ_=>⟨.inr (by rw[eG];exact t1),aK⟩,λg hg hle=>⟨trivial,?_⟩⟩;by_cases h0:0 <= -g
   .have:=t3 (-g) (hg.neg.pos h0);grind
   .have:=t1.DQ;grind
  .obtain ⟨t1,t2,t3⟩:=TL hp ho;rw[aY ho];(first|unfold Dn|unfold Up);rw[qq];simp only[bD];refine⟨λ_=>⟨.inr (by rw[eG];exact t1),aK⟩,λg hg hle=>⟨trivial,?_⟩⟩;by_cases h0:0 <= -g
   .have:=t3 (-g) (hg.neg.pos h0) aK;grind
   .have:=t1.DQ;grind
def tV{d:Dy}(hd:d.mf){p:Nat}(hp:1<=p)(gY:p<=4096):Dn p d.q (jk d p false) (jf d p false):=by
 have:=Cz d.neg d.m d.e hp gY;rwa[hd.E3]at this
def tW{d:Dy}(hd:d.mf){p:Nat}(hp:1<=p)(gY:p<=4096):Up p d.q (jk d p true) (jf d p true):=by
 have:=CA d.neg d.m d.e hp gY;rwa[hd.E3]at this
def Jd{N p:Nat}{e:Int}(hb:p<ib N){g:Rat}(hg:GM p g):g<=(N:Rat)*P2 e\/((N+1:Nat):Rat)*P2 e<=g:=by
 obtain⟨gm,ge,b1,b2,b3,rfl⟩:=hg;by_cases hc:e<=ge
 .rw [sL (K:=e) hc (cj _),sL (K:=e) (cj _) hc,show(e-e).toNat=0 by omega];omega
 .left;rw[sL (K:=ge) (cj _) aC,show(ge-ge).toNat=0 by omega,cB,ch];have h1:gm<2^p:=kV.1 b1;have h2:2^p<=N:=uR.1 hb;exact bj (dq (bM h1 h2)) (fR _ (bn aE))
def MK{N p:Nat}{e:Int}(hb:p<ib N){x y:Rat}(x1:(N:Rat)*P2 e<x)(x2:x<((N+1:Nat):Rat)*P2 e)(y1:(N:Rat)*P2 e<y)(y2:y<((N+1:Nat):Rat)*P2 e){g:Rat}(hg:G p g):
 (g<=x↔g<=y)/\(x<=g↔y<=g)/\(g <= -x↔g <= -y)/\(-x<=g ↔ -y<=g):=by
 have hv:0<=(N:Rat)*P2 e:=bQ cM (bG (lV _));have hG:∀ g,G p g->g<=(N:Rat)*P2 e\/((N+1:Nat):Rat)*P2 e<=g:=by
  intro g hg;by_cases h0:0<=g
  .exact Jd hb (hg.pos h0)
  .left;grind
 have h1:=hG g hg;have h2:=hG (-g) hg.neg;generalize (N:Rat)*P2 e=A at *
 generalize ((N+1:Nat):Rat)*P2 e=B at *
 refine⟨?_,?_,?_,?_⟩<;>constructor<;>intro h<;>grind
def A5{N p:Nat}(E:Int)(hb:p<ib N)(neg up:Bool):jB neg N E true p up=jB neg (2*N+1) (E-1) false p up/\ju neg N E true p up=ju neg (2*N+1) (E-1) false p up:=by
 have h1:(2*N+1)/2^1=N:= aC ;have h:=E8 (N:=2*N+1) (E:=E-1) (more:=false) (d:=1) (p:=p) neg up (by rw[h1];exact hb);have h2:decide ((2*N+1)%2^1≠0)=true:= aH ;rw[h1,h2,(aC:E-1+((1:Nat):Int)=E)]at h;exact h
def II{a b:Dy}(b0:b.m≠0){p:Nat}(hp:1<=p)(gY:p<=4096):Dn p (a.q/b.q) (nM a b p false) (pj a b p false)/\Up p (a.q/b.q) (nM a b p true) (pj a b p true):=by
 by_cases a0:a.m=0
 .have hq:a.q=0:=by rw[py,a0];simp
  have h0:(0:Rat)/b.q=0:=by rw[cN,fH]
  unfold nM pj;rw[hq,h0,aZ a0,aZ a0,aZ a0,aZ a0];have hz:G p 0:=.inl (wo p);exact⟨⟨λ_=>⟨by rw[tR];exact hz,by rw[tR];exact bV⟩,λg _ h=>⟨rfl,by rw[tR];exact h⟩⟩,⟨λ_=>⟨by rw[tR];exact hz,by rw[tR];exact bV⟩,λg _ h=>⟨rfl,by rw[tR];exact h⟩⟩⟩
 .have hb:=IJ a0 b0 p 2 aE ;unfold nM pj;rw[aY a0,aY a0,aY a0,aY a0];generalize hk:kr a b p 2=k at *
  generalize hs:(a.neg != b.neg)=s;generalize hE:a.e-b.e-(k:Int)=E0;have hB:(0:Rat)<(b.m:Rat):=fG.2 aC;have OU:=lV b.e;have hP:=lV E0;obtain⟨w,hw⟩:∃ w:Rat,w=(a.m:Rat)*P2 a.e/((b.m:Rat)*P2 b.e):=⟨_,rfl⟩
  have Qd:w*((b.m:Rat)*P2 b.e)=(a.m:Rat)*P2 a.e:=by
   have:(b.m:Rat)*P2 b.e≠0:=by have:=eh hB OU;grind
   rw[hw];exact dG this
  have j9:a.q/b.q=if s then -w else w:=by
   have hbq:b.q≠0:=by
    have:=eh hB OU;rw[py b];cases b.neg<;>simp<;>grind
   have hq:(if s then -w else w)*b.q=a.q:=by
    rw[py a,py b,<-hs,<-Qd];cases a.neg<;>cases b.neg<;>simp<;>grind
   rw[<-hq,ahj hbq]
  have JA:=cC (a.m*2^k) b.m;have hr:=bC (a.m*2^k) (aC:0<b.m);generalize hN:a.m*2^k/b.m=N at *
  generalize hR:a.m*2^k%b.m=R at *
  have aae:(b.m:Rat)*(N:Rat)+(R:Rat)=(a.m:Rat)*((2^k:Nat):Rat):=by rw[<-c9,<-c9,<-dO,JA]
  have ZX:P2 a.e=((2^k:Nat):Rat)*P2 b.e*P2 E0:=by rw[<-vh,<-oE,<-oE];congr 1;omega
  have F1:w*(b.m:Rat)=((b.m:Rat)*(N:Rat)+(R:Rat))*P2 E0:=by
   have:w*(b.m:Rat)*P2 b.e=((b.m:Rat)*(N:Rat)+(R:Rat))*P2 E0*P2 b.e:=by
    rw[aae,eE,Qd,ZX];grind
   have kG:P2 b.e≠0:= aK ;have h2:=congrArg (· / P2 b.e) this;simp only[ahj kG]at h2;exact h2
  by_cases h0:R=0
  .have J0:w=(N:Rat)*P2 E0:=by
    rw[h0]at F1;have kG:(b.m:Rat)≠0:= aK ;have h2:w*(b.m:Rat)=((N:Rat)*P2 E0)*(b.m:Rat):=by rw[F1];simp;grind
    have h3:=congrArg (· / (b.m:Rat)) h2;simp only[ahj kG]at h3;exact h3
   have hc:a.q/b.q=(canon s N E0).q:=by rw[j9,qq,J0]
   rw[hc,bg (by simpa using h0)];exact⟨Cz _ _ _ hp gY,CA _ _ _ hp gY⟩
  .have vG:(0:Rat)<(R:Rat):=fG.2 aC ;have hRb:(R:Rat)<(b.m:Rat):=Rat.natCast_lt_natCast.2 hr;have w1:(N:Rat)*P2 E0<w:=by
    apply ahz (c:=(b.m:Rat)) _ (bG hB);rw[F1];have:=eh vG hP
    grind
   have w2:w<((N+1:Nat):Rat)*P2 E0:=by
    apply ahz (c:=(b.m:Rat)) _ (bG hB);rw[F1,dO];have:=eh (show(0:Rat)<(b.m:Rat)-(R:Rat)by grind) hP;simp
    grind
   have hh:P2 E0=2*P2 (E0-1):=by
    rw[Cl (aC:E0-1<=E0),show(E0-(E0-1)).toNat=1 by omega];simp
   have v1:(N:Rat)*P2 E0<((2*N+1:Nat):Rat)*P2 (E0-1):=by
    have:=lV (E0-1);rw[hh,dO,c9];simp;grind
   have v2:((2*N+1:Nat):Rat)*P2 (E0-1)<((N+1:Nat):Rat)*P2 E0:=by
    have:=lV (E0-1);rw[hh,dO,c9,dO];simp;grind
   rw[bh (by simpa using h0),(A5 E0 hb s false).1,(A5 E0 hb s false).2,(A5 E0 hb s true).1,(A5 E0 hb s true).2,j9];have A:=Cz s (2*N+1) (E0-1) hp gY;have B:=CA s (2*N+1) (E0-1) hp gY;rw[qq]at A B;refine⟨A.of λg hg=>?_,B.of λg hg=>?_⟩
   .obtain ⟨k1,k2,k3,k4⟩:=MK hb v1 v2 w1 w2 hg;cases s
    .exact k1
    .exact k3
   .obtain ⟨k1,k2,k3,k4⟩:=MK hb v1 v2 w1 w2 hg;cases s
    .exact k2
    .exact k4
def Iv.je(x:Iv)(r:Rat):Prop:=x.all=true\/(x.lo.q<=r/\r<=x.hi.q)
def Sub(x y:Iv):Prop:=y.all=true\/(x.all=false/\y.lo.q<=x.lo.q/\x.hi.q<=y.hi.q)
def Sub.je{x y:Iv}(h:Sub x y){r:Rat}(k:x.je r):y.je r:=by
 rcases h with h|⟨h1,h2,h3⟩
 .exact .inl h
 .rcases k with k|⟨k1,k2⟩
  .rw [h1]at k;cases k
  .exact .inr ⟨aK,aK⟩
def Sub.uQ{x y:Iv}(h:Sub x y)(k:y.all=false):x.all=false/\y.lo.q<=x.lo.q/\x.hi.q<=y.hi.q:=by
 rcases h with h|h
 .rw [h]at k;cases k
 .exact h
def Iv.gX.q{x:Iv}(h:x.gX):x.lo.q<=x.hi.q:=by
 rcases h with⟨_,h2,h3⟩|⟨_,_,_,h⟩
 .rw [h2,h3];exact bV
 .exact (o9 _ _).1 h
def Iv.gX.xN{x:Iv}(h:x.gX):x.lo.mf/\x.hi.mf:=by
 rcases h with⟨_,h2,h3⟩|⟨_,h2,h3,_⟩
 .rw [h2,h3];exact⟨qe.canon,qe.canon⟩
 .exact ⟨h2.canon,h3.canon⟩
def Iv.gX.wQ{x:Iv}(h:x.gX):x.je x.lo.q:=.inr ⟨bV,h.q⟩
def Iv.gX.Bj{x:Iv}(h:x.gX):x.je x.hi.q:=.inr ⟨h.q,bV⟩
structure y6(p:Nat)(S:Rat->Prop)(X:Iv):Prop where
 je:∀ r,S r->X.je r
 on:X.all=false->G p X.lo.q/\G p X.hi.q
 tE:∀ L U,G p L->G p U->(∀ r,S r->L<=r/\r<=U)->X.all=false/\L<=X.lo.q/\X.hi.q<=U
def Cp{x y:Iv}(hx:x.gX)(hy:y.gX)(xa:x.all=false)(ya:y.all=false){p:Nat}(hp:1<=p)(gY:p<=4096):
 y6 p (λr=>∃ a b,x.je a/\y.je b/\r=a+b) (jN x y p):=by
 have A:=tV (xM hx.xN.1 hy.xN.1) hp gY;have B:=tW (xM hx.xN.2 hy.xN.2) hp gY;rw[Gw]at A B;unfold jN kI;rw[xa,ya];simp only[gp,bA,bq];have je:∀ r,(∃ a b,x.je a/\y.je b/\r=a+b)->x.lo.q+y.lo.q<=r/\r<=x.hi.q+y.hi.q:=by
  rintro r ⟨a,b,ha,hb,rfl⟩;rcases ha with ha|ha
  .rw [xa]at ha;cases ha
  .rcases hb with hb|hb
   .rw [ya]at hb;cases hb
   .grind
 have tE:∀ L U,G p L->G p U->(∀ r,(∃ a b,x.je a/\y.je b/\r=a+b)->L<=r/\r<=U) ->
  (jf (iN x.lo y.lo) p false=0/\L<=(jk (iN x.lo y.lo) p false).q)/\jf (iN x.hi y.hi) p true=0/\(jk (iN x.hi y.hi) p true).q<=U:=λL U hL hU h=>
  ⟨A.2 L hL (h _ ⟨_,_,hx.wQ,hy.wQ,rfl⟩).1,B.2 U hU (h _ ⟨_,_,hx.Bj,hy.Bj,rfl⟩).2⟩
 split
 .rename_i he;refine⟨λ_ _=>.inl rfl,λh=>absurd h aE,λL U hL hU h=>?_⟩;obtain⟨⟨e1,_⟩,e2,_⟩:=tE L U hL hU h;rcases he with he|he
  .exact absurd e1 he
  .exact absurd e2 he
 .rename_i he;obtain⟨a1,a2⟩:=A.1 aC;obtain⟨b1,b2⟩:=B.1 aC;refine⟨λr hr=>.inr ?_,λ_=>⟨a1,b1⟩,λL U hL hU h=>?_⟩
  .obtain ⟨h1,h2⟩:=je r hr;exact⟨bF a2 h1,bF h2 b2⟩
  .obtain ⟨⟨_,e1⟩,_,e2⟩:=tE L U hL hU h;exact⟨rfl,e1,e2⟩
def EL{x y:Iv}(p:Nat)(h:x.all=true\/y.all=true):jN x y p=ie:=by
 unfold jN;rw[aZ (by rcases h with h|h<;>rw[h]<;>simp)]
def ze{x y:Iv}(hx:x.gX)(hy:y.gX){p:Nat}(hp:1<=p)(gY:p<=4096){a b:Rat}(ha:x.je a)(hb:y.je b):(jN x y p).je (a+b):=by
 cases xa:x.all
 .cases ya:y.all
  .exact (Cp hx hy xa ya hp gY).je _ ⟨a,b,ha,hb,rfl⟩
  .rw [EL p (.inr ya)];exact .inl rfl
 .rw [EL p (.inl xa)];exact .inl rfl
def Ov{p:Nat}{D:Dy->Dy->Bool->Dy}{E:Dy->Dy->Bool->Int}{f:Rat->Rat->Rat}{x y:Iv}{S:Rat->Prop}
 (hD:∀ a b,(a=x.lo\/a=x.hi)->(b=y.lo\/b=y.hi)->Dn p (f a.q b.q) (D a b false) (E a b false)/\Up p (f a.q b.q) (D a b true) (E a b true)/\S (f a.q b.q))
 (hS:∀ r,S r->(f x.lo.q y.lo.q<=r\/f x.lo.q y.hi.q<=r\/f x.hi.q y.lo.q<=r\/f x.hi.q y.hi.q<=r)/\(r<=f x.lo.q y.lo.q\/r<=f x.lo.q y.hi.q\/r<=f x.hi.q y.lo.q\/r<=f x.hi.q y.hi.q)):
 y6 p S (nF D E x y):=by
 obtain⟨a1,a2,a3⟩:=hD x.lo y.lo (.inl rfl) (.inl rfl);obtain⟨b1,b2,b3⟩:=hD x.lo y.hi (.inl rfl) (.inr rfl);obtain⟨c1,c2,c3⟩:=hD x.hi y.lo (.inr rfl) (.inl rfl);obtain⟨d1,d2,d3⟩:=hD x.hi y.hi (.inr rfl) (.inr rfl);have tE:∀ L U,G p L->G p U->(∀ r,S r->L<=r/\r<=U) ->
  ((E x.lo y.lo false=0/\L<=(D x.lo y.lo false).q)/\E x.lo y.lo true=0/\(D x.lo y.lo true).q<=U)/\((E x.lo y.hi false=0/\L<=(D x.lo y.hi false).q)/\E x.lo y.hi true=0/\(D x.lo y.hi true).q<=U) /\
  ((E x.hi y.lo false=0/\L<=(D x.hi y.lo false).q)/\E x.hi y.lo true=0/\(D x.hi y.lo true).q<=U)/\((E x.hi y.hi false=0/\L<=(D x.hi y.hi false).q)/\E x.hi y.hi true=0/\(D x.hi y.hi true).q<=U):=λL U hL hU h=>
  ⟨⟨a1.2 L hL (h _ a3).1,a2.2 U hU (h _ a3).2⟩,⟨b1.2 L hL (h _ b3).1,b2.2 U hU (h _ b3).2⟩,⟨c1.2 L hL (h _ c3).1,c2.2 U hU (h _ c3).2⟩,⟨d1.2 L hL (h _ d3).1,d2.2 U hU (h _ d3).2⟩⟩
 unfold nF;split
 .rename_i he;obtain⟨⟨e1,e2⟩,⟨e3,e4⟩,⟨e5,e6⟩,⟨e7,e8⟩⟩:=he;obtain⟨ga,la⟩:=a1.1 e1;obtain⟨gA,lA⟩:=a2.1 e2;obtain⟨gb,lb⟩:=b1.1 e3;obtain⟨gB,lB⟩:=b2.1 e4;obtain⟨gc,lc⟩:=c1.1 e5;obtain⟨gC,lC⟩:=c2.1 e6;obtain⟨gd,ld⟩:=d1.1 e7;obtain⟨gD,lD⟩:=d2.1 e8;obtain⟨m1,m2,m3⟩:=Ar (D x.lo y.lo false) (D x.lo y.hi false);obtain⟨m4,m5,m6⟩:=Ar (iT (D x.lo y.lo false) (D x.lo y.hi false)) (D x.hi y.lo false);obtain⟨m7,m8,m9⟩:=Ar (iT (iT (D x.lo y.lo false) (D x.lo y.hi false)) (D x.hi y.lo false)) (D x.hi y.hi false);obtain⟨n1,n2,n3⟩:=D4 (D x.lo y.lo true) (D x.lo y.hi true);obtain⟨n4,n5,n6⟩:=D4 (iQ (D x.lo y.lo true) (D x.lo y.hi true)) (D x.hi y.lo true);obtain⟨n7,n8,n9⟩:=D4 (iQ (iQ (D x.lo y.lo true) (D x.lo y.hi true)) (D x.hi y.lo true)) (D x.hi y.hi true);generalize (iT (D x.lo y.lo false) (D x.lo y.hi false))=u1 at *
  generalize (iT u1 (D x.hi y.lo false))=u2 at *
  generalize (iT u2 (D x.hi y.hi false))=u3 at *
  generalize (iQ (D x.lo y.lo true) (D x.lo y.hi true))=v1 at *
  generalize (iQ v1 (D x.hi y.lo true))=v2 at *
  generalize (iQ v2 (D x.hi y.hi true))=v3 at *
  refine⟨λr hr=>.inr ?_,λ_=>⟨?_,?_⟩,λL U hL hU h=>⟨rfl,?_,?_⟩⟩
  .obtain ⟨h1,h2⟩:=hS r hr;constructor
   .show u3.q<=r;rcases h1 with h1|h1|h1|h1<;>grind
   .show r<=v3.q;rcases h2 with h1|h1|h1|h1<;>grind
  .show G p u3.q;rcases m9 with h|h
   .rw [h];rcases m6 with h|h
    .rw [h];rcases m3 with h|h<;>rw[h]<;>assumption
    .rw [h];assumption
   .rw [h];assumption
  .show G p v3.q;rcases n9 with h|h
   .rw [h];rcases n6 with h|h
    .rw [h];rcases n3 with h|h<;>rw[h]<;>assumption
    .rw [h];assumption
   .rw [h];assumption
  .obtain ⟨⟨⟨_,k1⟩,_,k2⟩,⟨⟨_,k3⟩,_,k4⟩,⟨⟨_,k5⟩,_,k6⟩,⟨⟨_,k7⟩,_,k8⟩⟩:=tE L U hL hU h;show L<=u3.q;rcases m9 with h|h
   .rw [h];rcases m6 with h|h
    .rw [h];rcases m3 with h|h<;>rw[h]<;>assumption
    .rw [h];assumption
   .rw [h];assumption
  .obtain ⟨⟨⟨_,k1⟩,_,k2⟩,⟨⟨_,k3⟩,_,k4⟩,⟨⟨_,k5⟩,_,k6⟩,⟨⟨_,k7⟩,_,k8⟩⟩:=tE L U hL hU h;show v3.q<=U;rcases n9 with h|h
   .rw [h];rcases n6 with h|h
    .rw [h];rcases n3 with h|h<;>rw[h]<;>assumption
    .rw [h];assumption
   .rw [h];assumption
 .rename_i he;refine⟨λ_ _=>.inl rfl,λh=>absurd h aE,λL U hL hU h=>?_⟩;obtain⟨⟨⟨k1,_⟩,k2,_⟩,⟨⟨k3,_⟩,k4,_⟩,⟨⟨k5,_⟩,k6,_⟩,⟨⟨k7,_⟩,k8,_⟩⟩:=tE L U hL hU h;exact absurd ⟨⟨k1,k2⟩,⟨k3,k4⟩,⟨k5,k6⟩,k7,k8⟩ he
def IA{a b c d x y:Rat}(h1:a<=x)(h2:x<=b)(h3:c<=y)(h4:y<=d):
 (a*c<=x*y\/a*d<=x*y\/b*c<=x*y\/b*d<=x*y)/\(x*y<=a*c\/x*y<=a*d\/x*y<=b*c\/x*y<=b*d):=by
 have mono:∀ {u v w:Rat},u<=v->0<=w->u*w<=v*w:=λh k=>cg h k
 have anti:∀ {u v w:Rat},u<=v->w<=0->v*w<=u*w:=by
  intro u v w h k;have:=mono h (show 0 <= -w by grind)
  grind
 have side:∀ t:Rat,(t*c<=t*y\/t*d<=t*y)/\(t*y<=t*c\/t*y<=t*d):=by
  intro t;rw[ej t c,ej t d,ej t y];rcases Rat.le_total (a:=0) (b:=t)with h|h
  .exact ⟨.inl (mono h3 h),.inr (mono h4 h)⟩
  .exact ⟨.inr (anti h4 h),.inl (anti h3 h)⟩
 have sa:=side a;have sb:=side b;rcases Rat.le_total (a:=0) (b:=y)with h|h
 .have m1:=mono h1 h;have m2:=mono h2 h;clear mono anti side;constructor
  .rcases sa.1 with k|k<;>grind
  .rcases sb.2 with k|k<;>grind
 .have m1:=anti h1 h;have m2:=anti h2 h;clear mono anti side;constructor
  .rcases sb.1 with k|k<;>grind
  .rcases sa.2 with k|k<;>grind
def Iv.je.jC{x:Iv}{r:Rat}(h:x.je r)(k:x.all=false):x.lo.q<=r/\r<=x.hi.q:=by
 rcases h with h|h
 .rw [k]at h;cases h
 .exact h
def xL(a b:Dy):(uW a b).mf:=sf _ _ _
def BP{x y:Iv}(hx:x.gX)(hy:y.gX)(xa:x.all=false)(ya:y.all=false){p:Nat}(hp:1<=p)(gY:p<=4096):
 y6 p (λr=>∃ a b,x.je a/\y.je b/\r=a*b) (jm x y p):=by
 unfold jm;rw[xa,ya];simp only[gp,bA,bq];refine Ov (f:=λa b=>a*b) (λa b ha hb=>⟨?_,?_,a.q,b.q,?_,?_,rfl⟩) (λr ⟨a,b,ha,hb,e⟩=>?_)
 .have:=tV (xL a b) hp gY;rwa[BW]at this
 .have:=tW (xL a b) hp gY;rwa[BW]at this
 .rcases ha with rfl|rfl;exact hx.wQ;exact hx.Bj
 .rcases hb with rfl|rfl;exact hy.wQ;exact hy.Bj
 .obtain ⟨h1,h2⟩:=ha.jC xa;obtain⟨h3,h4⟩:=hb.jC ya;rw[e];exact IA h1 h2 h3 h4
def Gg{x y:Iv}(p:Nat)(h:x.all=true\/y.all=true):jm x y p=ie:=by
 unfold jm;rw[aZ (by rcases h with h|h<;>rw[h]<;>simp)]
def Ky{x y:Iv}(hx:x.gX)(hy:y.gX){p:Nat}(hp:1<=p)(gY:p<=4096){a b:Rat}(ha:x.je a)(hb:y.je b):(jm x y p).je (a*b):=by
 cases xa:x.all
 .cases ya:y.all
  .exact (BP hx hy xa ya hp gY).je _ ⟨a,b,ha,hb,rfl⟩
  .rw [Gg p (.inr ya)];exact .inl rfl
 .rw [Gg p (.inl xa)];exact .inl rfl
def Ka{b c:Rat}(h0:0<c)(h:c<=b):b⁻¹<=c⁻¹:=by
 have hb:0<b:= aK ;apply ff (c:=b*c) _ (eh hb h0);have e1:b⁻¹*(b*c)=c:=by rw[<-eE,gv _ aK,eH]
 have e2:c⁻¹*(b*c)=b:=by rw[ej b c,<-eE,gv _ aK,eH]
 rw[e1,e2];exact h
def RA(b:Rat):(-b)⁻¹ = -b⁻¹:=by
 by_cases h:b=0
 .rw [h];simp
 .have h1:(-b)⁻¹*(-b)=1:=gv _ aK ;have h2:b⁻¹*b=1:=gv _ h;have h3:(-b)⁻¹*(-b)*b⁻¹=b⁻¹:=by rw[h1,eH]
  grind
def Qu{b c:Rat}(h0:b<0)(h:c<=b):b⁻¹<=c⁻¹:=by
 have:=Ka (b:=-c) (c:=-b) aK aK;rw[RA,RA]at this
 grind
def S6{y:Iv}(_hy:y.gX)(h:lO y≠0):y.all=false/\(0<y.lo.q\/y.hi.q<0):=by
 unfold lO at h;cases ya:y.all
 .rw [ya]at h;simp only[bA,bq]at h;refine⟨rfl,?_⟩;split at h
  .rename_i h1;exact .inl ((rm _).1.1 h1)
  .split at h
   .rename_i h1;exact .inr ((rm _).2.1 h1)
   .exact absurd rfl h
 .rw [ya]at h;simp at h
def LB{y:Iv}(ya:y.all=false)(h:0<y.lo.q\/y.hi.q<0):lO y≠0:=by
 unfold lO;rw[ya];simp only[bA,bq];rcases h with h|h
 .rw [aZ ((rm _).1.2 h)];decide
 .split
  .decide
  .rw [aZ ((rm _).2.2 h)];decide
def abD{d:Dy}(h:d.q≠0):d.m≠0:=by
 intro h0;apply h;rw[py,h0];simp
def Fa{x y:Iv}(hx:x.gX)(hy:y.gX)(xa:x.all=false)(hs:lO y≠0){p:Nat}(hp:1<=p)(gY:p<=4096):
 y6 p (λr=>∃ a b,x.je a/\y.je b/\r=a/b) (jT x y p):=by
 obtain⟨ya,h0⟩:=S6 hy hs;have hle:=hy.q;unfold jT;rw[xa,ya,bg hs];simp only[gp,bA,bq];refine Ov (f:=λa b=>a/b) (λa b ha hb=>?_) (λr ⟨a,b,ha,hb,e⟩=>?_)
 .have b0:b.m≠0:=abD (by rcases hb with rfl|rfl<;>grind);obtain⟨h1,h2⟩:=II (a:=a) b0 hp gY;refine⟨h1,h2,a.q,b.q,?_,?_,rfl⟩
  .rcases ha with rfl|rfl;exact hx.wQ;exact hx.Bj
  .rcases hb with rfl|rfl;exact hy.wQ;exact hy.Bj
 .obtain ⟨h1,h2⟩:=ha.jC xa;obtain⟨h3,h4⟩:=hb.jC ya;have i1:y.hi.q⁻¹<=b⁻¹:=by
   rcases h0 with h0|h0
   .exact Ka aK h4
   .exact Qu aK h4
  have i2:b⁻¹<=y.lo.q⁻¹:=by
   rcases h0 with h0|h0
   .exact Ka h0 h3
   .exact Qu aK h3
  obtain⟨k1,k2⟩:=IA h1 h2 i1 i2;rw[e];simp only[cN];exact⟨aK,aK⟩
def CD{x y:Iv}(p:Nat)(h:x.all=true\/lO y=0):jT x y p=ie:=by
 unfold jT;rw[aZ (by rcases h with h|h<;>rw[h]<;>simp)]
def Fb{x y:Iv}(hx:x.gX)(hy:y.gX){p:Nat}(hp:1<=p)(gY:p<=4096){a b:Rat}(ha:x.je a)(hb:y.je b):(jT x y p).je (a/b):=by
 cases xa:x.all
 .by_cases hs:lO y=0
  .rw [CD p (.inr hs)];exact .inl rfl
  .exact (Fa hx hy xa hs hp gY).je _ ⟨a,b,ha,hb,rfl⟩
 .rw [CD p (.inl xa)];exact .inl rfl
def yC{x:Iv}(h:x.lo.q<=x.hi.q):x.hi.q<=(kg x).q /\ -x.lo.q<=(kg x).q/\((kg x).q=x.hi.q\/(kg x).q = -x.lo.q):=by
 obtain⟨a1,a2,a3,a4⟩:=xq x.lo;obtain⟨b1,b2,b3,b4⟩:=xq x.hi;obtain⟨c1,c2,c3⟩:=D4 (lg x.lo) (lg x.hi);unfold kg;generalize (iQ (lg x.lo) (lg x.hi)).q=M at *
 refine⟨aK,aK,?_⟩;rcases c3 with c3|c3
 .rcases a4 with a4|a4
  .grind
  .grind
 .rcases b4 with b4|b4
  .grind
  .grind
def abG{x x':Iv}(hx:x.gX)(yo:x'.gX)(h:Sub x x')(xa:x'.all=false):(kg x).q<=(kg x').q:=by
 obtain⟨h1,h2,h3⟩:=h.uQ xa;obtain⟨a1,a2,a3⟩:=yC hx.q;obtain⟨b1,b2,b3⟩:=yC yo.q
 grind
def Kw{x:Iv}(hx:x.gX)(xa:x.all=false):0<=(nj x).q/\(x.lo.q<=0->0<=x.hi.q->(nj x).q=0)/\(0<x.lo.q->(nj x).q=x.lo.q)/\(x.hi.q<0->(nj x).q = -x.hi.q):=by
 have hle:=hx.q;obtain⟨a1,a2,a3,a4⟩:=xq x.lo;obtain⟨b1,b2,b3,b4⟩:=xq x.hi;obtain⟨c1,c2,c3⟩:=Ar (lg x.lo) (lg x.hi);by_cases hs:lO x=0
 .have hn:¬(0<x.lo.q\/x.hi.q<0):=λh=>LB xa h hs
  have:nj x=jt:=by unfold nj;rw[aZ hs]
  rw[this,tR];refine⟨bV,λ_ _=>rfl,λh=>absurd (.inl h) hn,λh=>absurd (.inr h) hn⟩
 .obtain ⟨_,h0⟩:=S6 hx hs;have:nj x=iT (lg x.lo) (lg x.hi):=by unfold nj;rw[aY hs]
  rw[this];generalize (iT (lg x.lo) (lg x.hi)).q=M at *
  generalize (lg x.lo).q=u at *
  generalize (lg x.hi).q=v at *
  refine⟨aK,aK,aK,aK⟩
def agP{x x':Iv}(hx:x.gX)(yo:x'.gX)(h:Sub x x'):Sub (jx x) (jx x'):=by
 cases xa:x'.all
 .obtain ⟨h1,h2,h3⟩:=h.uQ xa;unfold jx;rw[h1,xa];refine .inr ⟨rfl,?_,abG hx yo h xa⟩;show(nj x').q<=(nj x).q;obtain⟨a1,a2,a3,a4⟩:=Kw hx h1;obtain⟨b1,b2,b3,b4⟩:=Kw yo xa;have:=hx.q;by_cases c1:0<x'.lo.q
  .rw [b3 c1,a3 aK];exact h2
  .by_cases c2:x'.hi.q<0
   .rw [b4 c2,a4 aK];grind
   .rw [b2 aK aK];exact a1
 .refine .inl ?_;unfold jx;rw[aZ xa];rfl
def EI{x:Iv}(hx:x.gX){r s:Rat}(h:x.je r)(hs:s=r/\0<=r\/s = -r/\r<=0):(jx x).je s:=by
 unfold jx;cases xa:x.all
 .obtain ⟨h1,h2⟩:=h.jC xa;obtain⟨a1,a2,a3⟩:=yC hx.q;obtain⟨b1,b2,b3,b4⟩:=Kw hx xa;refine .inr ⟨?_,?_⟩
  .show (nj x).q<=s;by_cases c1:0<x.lo.q
   .rw [b3 c1];grind
   .by_cases c2:x.hi.q<0
    .rw [b4 c2];grind
    .rw [b2 aK aK];grind
  .show s<=(kg x).q
   grind
 .exact .inl rfl
def K0(d:Dy):(kK d).je d.q:=.inr ⟨bV,bV⟩
def xk(n:Int):(iF n).je (n:Rat):=by have:=K0 (iK n);rwa[tO]at this
end Go.Proofs.YtkjkcjhacddojaaGreatDoor.Fp
namespace Go.Proofs.YtkjkcjhacddojaaGreatDoor
open Go.RowKit Fp Pu
abbrev jQ(xs:List Iv):Nat->Nat->E:=λi j=>(iG (xs.getD i ie)).getD j .any
abbrev mr(M:List (List Iv)):Nat->Nat:=λq=>(M.getD q []).length
abbrev pB(M:List (List Iv)):Nat->Nat->Nat->E:=λq i j=>(iG ((M.getD q []).getD i ie)).getD j .any
def Dr(x:Iv)(j:Nat)(hj:j<7):((iG x).getD j .any).nr 2=true:=by
 rcases j with _|_|_|_|_|_|_|j
 all_goals first|rfl|omega
def Kh{T n:Nat}{xs:List Iv}{y:Iv}(hn:n=xs.length):
 Bx.le (.row true T (n+[y].length) 7 λi j=>if i<n then jQ xs i j else(E.lW (im [y])) (i-n) j) (.row true T (xs++[y]).length 7 (jQ (xs++[y]))):=by
 subst hn;refine .row aH λi j hi hj=>⟨.iH ?_,Dr _ _ hj⟩
 by_cases h:i<xs.length
 .rw [aZ h];show(iG (xs.getD i ie)).getD j .any=(iG ((xs++[y]).getD i ie)).getD j .any;congr 2;simp[bc,dm h]
 .have lR:i=xs.length:=by simp at hi;omega
  subst lR;rw[aY h,dx];show(iG y).getD j .any=(iG ((xs++[y]).getD xs.length ie)).getD j .any;congr 2;simp[bc]
def tN{α:Type}(y:α):[y].length=1:=rfl
def yN{n i:Nat}{F:Nat->Iv}(h:i<n):((List.range n).map F).getD i ie=F i:=by
 simp[bc,h]
def abP{n:Nat}{M:List (List Iv)}(hn:n=M.length):E.le (.sl true n 1 λk _=>.sl true (mr M k) 7 (pB M k)) (mP M):=by subst hn;exact .refl _
def agR{α:Type}{l:List α}{i:Nat}{d:α}(h:i<l.length):l.getD i d=l[i]:=by
 rw[bc,bt h];rfl
def QF{T n n' k:Nat}{F:Nat->Iv}{y:Iv}(hn:n=k)(uF:n'=k+1)(hy:y=F k):
 Bx.le (.row true T (n+[y].length) 7 λi j=>if i<n then jQ ((List.range k).map F) i j else(E.lW (im [y])) (i-n) j) (.row true T n' 7 (jQ ((List.range (k+1)).map F))):=by
 subst hn uF hy;refine .row rfl λi j hi hj=>⟨.iH ?_,Dr _ _ hj⟩
 have hi:i<n+1:=hi;by_cases h:i<n
 .rw [aZ h];simp only[jQ];rw[yN h,yN hi]
 .have lR:i=n:= aC ;subst lR;rw[aY h,dx];simp only[jQ];rw[yN hi];rfl
def Dt{n:Nat}{M:List Iv}(hn:n=M.length):E.le (.sl true n 7 (jQ M)) (im M):=by subst hn;exact .refl _
def Fp.rq.Dx{m:List (List Iv)}{n k:Nat}(h:rq m n k){i:Nat}(hi:i<n):(m.getD i []).length=k:=by
 have lR:i<m.length:=by rw[h.lf];exact hi
 rw[bc,bt lR];exact h.row _ (ck lR)
def Fp.rq.agb{m:List (List Iv)}{n k:Nat}(h:rq m n k){i j:Nat}(hi:i<n)(hj:j<k):((m.getD i []).getD j ie).gX:=by
 have lR:i<m.length:=by rw[h.lf];exact hi
 have hl:=h.Dx hi;rw[bc (l:=m),bt lR]at hl ⊢;change m[i].length=k at hl;show(m[i].getD j ie).gX;have pU:j<m[i].length:=by rw[hl];exact hj
 rw[bc,bt pU];exact h.ok _ (ck lR) _ (ck pU)
def Fp.rq.abe{m:List (List Iv)}{n k:Nat}(h:rq m n k)(i:Nat):(m.getD i []).length<=8:=by
 by_cases hi:i<n
 .rw [h.Dx hi];exact h.k8
 .rw [bc,ct (by rw[h.lf];omega)];exact bO _
def Xl(s:Bool)(L:List Nat)(e:Int)(hk:iD L)(hl:L.length<=256)(lh:-1000000<=e)(kx:e<=1000000):gU 255 [bP s,gW L,iP e] (gZ (canon s (val L) e)):=by
 refine⟨call255,λw B vs hK hB hr=>?_⟩;obtain⟨v1,vs,rfl,h1,hr⟩:=hr.lp;obtain⟨v2,vs,rfl,h2,hr⟩:=hr.lp;obtain⟨v3,vs,rfl,h3,hr⟩:=hr.lp;obtain rfl:=hr.o0;obtain rfl:=iB.jX h1;obtain rfl:=iB.jX h3;obtain⟨A,c,rfl,s1⟩:=uZ hk h2;exact(Fe s A c L e w s1 aC (by have:=nX L;unfold lu at this;omega) lh kx hK).mono λe w' h=>rd B w e w' hB h
def afW(x y:Nat):E.le (.sl false 2 1 λi j=>[E.v (.int .u32 (x:Int)),.v (.int .u32 (y:Int))].getD (i*1+j) (.v (.bool false))) (gW [x,y]):=.sl λi j hi hj=>by
 obtain rfl:j=0:= aC ;obtain rfl|rfl:i=0\/i=1:= aC 
 .exact ⟨.refl _,rfl⟩
 .exact ⟨.refl _,rfl⟩
def Aa(n:Nat):iK (n:Int)=canon false n 0:=by
 unfold iK nL;rw[bg aC,fE]
def F6(n:Nat)(h:n<4294967296):(iK (n:Int)).gX:=by
 rw[Aa];refine⟨sf _ _ _,?_⟩;by_cases h0:n=0
 .subst h0;exact .inl rfl
 .have:=AX (s:=false) (e:=0) h0;have hb:ib n<=32:=kV.2 h;refine .inr ⟨aC,aC,?_,aC⟩;obtain⟨h1,h2,h3,h4⟩:=this;have:=np h3;omega
def agj(x y:Nat):val [x,y]=x+4294967296*y:=by simp[val]
def Al(n:Nat)(h:n<4294967296):(iF (n:Int)).gX:=rk (F6 n h)
def Wj(m:Nat)(e:Int):(canon false m e).neg=false:=by unfold canon;split<;>rfl
def aaF{c:Nat}(hc:0<c):(iK (c:Int)).m≠0:=by
 rw[Aa];exact(AX (s:=false) (e:=0) aC).2.2.1
def acu{c:Nat}(hc:0<c):lO (iF (c:Int))=1:=by
 unfold lO iF kK;simp only[bA,bq];rw[aZ];unfold Dy.iJ;rw[aY (aaF hc),show(iK (c:Int)).neg=false by rw[Aa];exact Wj _ _];simp
section
variable {m m':List (List Iv)} {h h':Iv} {n p:Nat}
def KK(j:Nat)(hj:j<4294967296):(iF (j:Int)).gX:=rk (F6 j hj)
end
def RM(c:Nat):(iF (c:Int)).lo.q=(c:Rat)/\(iF (c:Int)).hi.q=(c:Rat)/\(iF (c:Int)).all=false:=by
 refine⟨?_,?_,rfl⟩
 .show (iK _).q=_;rw[tO];exact dN c
 .show (iK _).q=_;rw[tO];exact dN c
def Le(s:Bool)(m:Nat)(e:Int)(hl:(gV m).length<=3000)(lh:-1000000<=e)(kx:e<=1000000):gU 186 [bP s,gW (gV m),iP e] (gZ (canon s m e)):=by
 refine⟨call186,λw B vs hK hB hr=>?_⟩;obtain⟨v1,vs,rfl,h1,hr⟩:=hr.lp;obtain⟨v2,vs,rfl,h2,hr⟩:=hr.lp;obtain⟨v3,vs,rfl,h3,hr⟩:=hr.lp;obtain rfl:=hr.o0;obtain rfl:=iB.jX h1;obtain rfl:=iB.jX h3;obtain⟨A,c,rfl,s1⟩:=uZ (kZ m) h2;have:=GF s A c (gV m) e w s1 hl lh kx;rw[jM]at this;exact this.mono λe w' h=>rd B w e w' hB h
def GI(a:Dy)(ha:a.gX):gU 96 [gZ a] (bP true):=wb call96 (λA c w h _=>adZ a A c w h ha) rv
def Lf(a:Dy):gU 53 [gZ a] (iP a.iJ):=wb call53 (λA c w h _=>adV a A c w h) rv
def adP(a:Dy):gU 146 [gZ a] (gZ (jv a)):=
 wb call146 (λA c w h _=>by
  have:=adO a.neg A c (gV a.m) a.e w h (vd _);rw[jM]at this;exact this) rd
def GG(a:Dy)(ha:xD a):gU 171 [gZ a] (iP a.ij):=wb call171 (λA c w h _=>adY a A c w h ha) rv
def adL(n:Nat)(hn:n<4294967296):gU 112 [iP (n:Int)] (gZ (canon false n 0)):=by
 refine⟨call112,λw B vs hK hB hr=>?_⟩;obtain⟨v1,vs,rfl,h1,hr⟩:=hr.lp;obtain rfl:=hr.o0;obtain rfl:=iB.jX h1;exact(adK n w hn).mono λe w' h=>rd B w e w' hB h
end Go.Proofs.YtkjkcjhacddojaaGreatDoor
namespace Go.Proofs.YtkjkcjhacddojaaGreatDoor.Fp
end Go.Proofs.YtkjkcjhacddojaaGreatDoor.Fp
namespace Go.Proofs.YtkjkcjhacddojaaGreatDoor
open Go.RowKit Fp Pu
def adS(d:Dy)(k:Int)(hd:d.gX)(mK:-32768<=k)(vJ:k<=32768)(hr:mN (canon d.neg d.m (d.e+k))):gU 111 [gZ d,iP k] (.ik [gZ (canon d.neg d.m (d.e+k)),iP 0]):=by
 refine⟨call111,λw B vs hK hB Db=>?_⟩;obtain⟨v1,vs,rfl,h1,Db⟩:=Db.lp;obtain⟨v2,vs,rfl,h2,Db⟩:=Db.lp;obtain rfl:=Db.o0;obtain⟨A,c,rfl,s1⟩:=Ff h1;obtain rfl:=iB.jX h2;have:=adT d.neg A c (gV d.m) d.e k w s1 hd.um mK vJ (by rw[jM];exact hr);rw[jM]at this;exact this.mono λe w' h=>La B w e w' hB h
def MY{n:Int}{e:Int}:canon (iK n).neg (iK n).m ((iK n).e+e)=nL n e:=by
 unfold iK nL;by_cases h:n.natAbs=0
 .rw [h,Cs,Cs];show canon false 0 _=_;rw[Cs]
 .have h1:=CE h;rw[show canon (decide (n<0)) n.natAbs 0=⟨decide (n<0),n.natAbs/2^jq n.natAbs,0+(jq n.natAbs:Int)⟩by unfold canon;rw[aY h]];show canon (decide (n<0)) (n.natAbs/2^jq n.natAbs) (0+(jq n.natAbs:Int)+e)=_;rw[<-Is _ _ _ (jq n.natAbs),h1];congr 1;omega
def Iq{n e:Int}(h1:n.natAbs<4294967296)(h2:-1000<=e)(h3:e<=1000):(nL n e).gX:=by
 refine⟨sf _ _ _,?_⟩;unfold nL;by_cases h0:n.natAbs=0
 .rw [h0,Cs];exact .inl rfl
 .have:=AX (s:=decide (n<0)) (e:=e) h0;have hb:ib n.natAbs<=32:=kV.2 h1;obtain⟨h4,h5,h6,_⟩:=this;have:=np h6;exact .inr ⟨aC,aC,aC,aC⟩
def ql{n:Int}(h1:n.natAbs<4294967296):(iK n).gX:=Iq h1 aE aE 
def adI(k:Nat)(w:World)(h0:0<k)(hn:k<4294967296):
 Calls prog 112 #[.int .i64 (-(k:Int))] w (vj w (canon true k 0)):=by
 have hm:=wG k aC;have uE:(k:Int)%4294967296=k:= aC ;rw[uE]at hm;have hd:(k:Int)/4294967296=0:= aC ;have iA:(-(k:Int))<0:= aC ;have FI:decide ((-(k:Int))<0)=true:=bh iA;have hu:IntKind.u64.wrap (-(k:Int))=18446744073709551616-k:=by rw[IntKind.wrap_u64];omega
 have hs:IntKind.u64.wrap (-(18446744073709551616-(k:Int)))=k:=by rw[IntKind.wrap_u64];omega
 have HC:=ahF (λ(A:Option Addr) c w (h:Sl w A c [k,0])=>GF true A c [k,0] 0 w h aH aE aE);have hv:val [k,0]=k:= aH ;rw[hv]at HC;clear hv;generalize canon true k 0=d at *
 generalize hN:(-(k:Int))=N at *
 go_enter func112,ntmps112;go_wp2_with fail;refine(HC.out _ _ _ (Sl.G7 _ _ aH _ _ k 0 rfl rfl hn aE)).mono ?_;rintro r w1 ⟨A1,c1,rfl,sF,jW⟩;have oG:iz (w.alloc (.cells #[.bool false,.slice none 0 0,.int .i64 0] 39)) w1:=(iz.alloc _ _).trans jW;have bx:=(ji.new w false none 0 0 0).ext oG;have b0:=bx.c0;have b1:=bx.c1;have b2:=bx.c2;have f0:=bx.fr 0;have f1:=bx.fr 1;have f2:=bx.fr 2;go_wp2;exact sr rfl rfl rfl (bx.set _ _ _ _ _) rfl (bx.sP sF _ _ _ _ _) (ji.rX ((iz.alloc _ _).trans oG) (bd _) _ _ _ _ _)
def Qp(k:Nat)(h0:0<k):iK (-(k:Int))=canon true k 0:=by
 unfold iK nL;rw[bh (show(-(k:Int))<0 by omega),ahf,fE]
def adJ(n:Int)(h:n.natAbs<4294967296):gU 112 [iP n] (gZ (iK n)):=by
 by_cases h0:0<=n
 .obtain ⟨k,rfl⟩:=gj h0;rw[Aa];exact adL k aC 
 .obtain ⟨k,rfl⟩:∃ k:Nat,n = -(k:Int):=⟨n.natAbs,aC⟩
  rw[Qp k aC];refine⟨call112,λw B vs hK hB hr=>?_⟩;obtain⟨v1,vs,rfl,h1,hr⟩:=hr.lp;obtain rfl:=hr.o0;obtain rfl:=iB.jX h1;exact(adI k w aC aC).mono λe w' h=>rd B w e w' hB h
open Classical in
noncomputable def Fp.rn(d:Dy)(k:Int):Dy:=if mN (canon d.neg d.m (d.e+k))then canon d.neg d.m (d.e+k)else jt
open Classical in
noncomputable def Fp.AF(d:Dy)(k:Int):Int:=if mN (canon d.neg d.m (d.e+k))then 0 else 9
def SN(d:Dy)(k:Int):(rn d k).gX:=by
 unfold rn;split
 .rename_i h;exact⟨sf _ _ _,h⟩
 .exact qe
noncomputable def Fp.lr(x:Iv)(k:Int):Iv:=if x.all then ie else kI (rn x.lo k) (AF x.lo k) (rn x.hi k) (AF x.hi k)
def Fp.pE(x:Iv):Iv:=if x.all then x else⟨jv (kg x),kg x,false⟩
def Fp.oC(n:Int):Dy:=canon false 1 n
def tK{n:Int}(h:n.natAbs<4294967296):(iF n).gX:=rk (ql h)
def AT{x:Iv}(hx:x.gX):(pE x).gX:=by
 unfold pE;cases kf:x.all
 .have he:=hx.jC;have hm:=yD he.1 he.2;simp only[bA,bq];refine .inr ⟨rfl,yG hm,hm,?_⟩;show jj (jv (kg x)) (kg x)<=0;rw[o9,px];obtain⟨a1,a2,_⟩:=yC hx.q;have:=hx.q
  grind
 .exact hx
def aeO{d:Dy}{k:Int}(h:AF d k=0):rn d k=canon d.neg d.m (d.e+k):=by
 unfold AF at h;unfold rn;split at h
 .rename_i h1;rw[aZ h1]
 .cases h
def yR{d:Dy}{k:Int}(h:AF d k=0):(rn d k).q=d.q*P2 k:=by
 rw[aeO h,qq,py d,oE];cases d.neg<;>simp<;>grind
def Ec{x:Iv}(hx:x.gX)(k:Int):(lr x k).gX:=by
 unfold lr;split
 .exact kS
 .unfold kI;split
  .exact kS
  .rename_i h;refine .inr ⟨rfl,SN _ _,SN _ _,?_⟩;rw[o9,yR aC,yR aC,tJ];exact hx.q
def Lw{x:Iv}{r:Rat}(h:x.je r)(k:Int):(lr x k).je (r*P2 k):=by
 unfold lr;split
 .exact .inl rfl
 .rename_i ha;unfold kI;split
  .exact .inl rfl
  .obtain ⟨h1,h2⟩:=h.jC (by simpa using ha);refine .inr ⟨?_,?_⟩
   .show (rn x.lo k).q<=_;rw[yR aC,tJ];exact h1
   .show _<=(rn x.hi k).q;rw[yR aC,tJ];exact h2
def Qr(nl:Bool)(n N:Nat)(el:Nat->Nat->E)(g:FuncId)(cap:List E)(i:Nat):PS:=⟨19,false,[(8,.e (iP i)),(7,.e (iP n)),(0,.e (.sl nl n 1 el)),(1,.e (.fn g cap))],[]⟩
def Qq(nl:Bool)(n:Nat)(el:Nat->Nat->E)(g:FuncId)(cap:List E)(i:Nat):PS:=⟨19,false,[(8,.e (iP i)),(7,.e (iP n)),(0,.e (.sl nl n 1 el)),(1,.e (.fn g cap))],[]⟩
def QQ(nl:Bool)(n:Nat)(el:Nat->Nat->E)(g:FuncId)(cap:List E)(i:Nat):PS:=⟨19,false,[(8,.e (iP i)),(7,.e (iP n)),(0,.e (.sl nl n 1 el)),(1,.e (.fn g cap))],[]⟩
def QD(nl:Bool)(n N:Nat)(el:Nat->Nat->E)(g:FuncId)(cap:List E)(i:Nat):PS:=⟨19,false,[(8,.e (iP i)),(7,.e (iP n)),(0,.e (.sl nl n 7 el)),(1,.e (.fn g cap))],[]⟩
def QC(nl:Bool)(n:Nat)(el:Nat->Nat->E)(g:FuncId)(cap:List E)(i:Nat):PS:=⟨19,false,[(8,.e (iP i)),(7,.e (iP n)),(0,.e (.sl nl n 7 el)),(1,.e (.fn g cap))],[]⟩
def SG(nl:Bool)(n N:Nat)(el:Nat->Nat->E)(g:FuncId)(cap:List E)(i:Nat):PS:=⟨19,false,[(8,.e (iP i)),(7,.e (iP n)),(0,.e (.sl nl n 1 el)),(1,.e (.fn g cap))],[]⟩
def SE(nl:Bool)(n:Nat)(el:Nat->Nat->E)(g:FuncId)(cap:List E)(i:Nat):PS:=⟨19,false,[(8,.e (iP i)),(7,.e (iP n)),(0,.e (.sl nl n 1 el)),(1,.e (.fn g cap))],[]⟩
def vU{p:Nat->Bool}{n:Nat}(h:∃ i,i<n/\p i=true):∃ N,N<n/\p N=true/\∀ i,i<N->p i=false:=by
 induction n with
 |zero=>obtain⟨i,h1,_⟩:=h;omega
 |succ n ih=>
  by_cases hn:∃ i,i<n/\p i=true
  .obtain ⟨N,h1,h2,h3⟩:=ih hn;exact⟨N,aC,h2,h3⟩
  .obtain ⟨i,h1,h2⟩:=h;have:i=n:=by
    by_cases q:i=n
    .exact q
    .exact absurd ⟨i,aC,h2⟩ hn
   subst this;exact⟨i,h1,h2,λj hj=>by simpa using λq=>hn ⟨j,hj,q⟩⟩
def aaH(nl:Bool)(n:Nat)(el:Nat->Nat->E)(g:FuncId)(cap:List E)(p:Nat->Bool)(hp:∀ i,i<n->gU g ((el i 0)::cap) (bP (p i)))(N:Nat)(hl:n<=1000000)(oF:N<n)(jK:∀ i,i<N->p i=false)(hN:p N=true):gU 284 [.sl nl n 1 el,.fn g cap] (iP N):=
 an call284 func284 (af [.s (Sp.kY (Qr nl n N el g cap) 0 N aC (λi hi rD=>by
    exact jg (af [tT 9 ((i:Int)<n) aC,iX (i:Int) n aC,.c (hp i aC:gU g ((el i 0)::cap) _),ai 16 (p i) (jK i aC),iu ((i:Int)+1) aC]) aF)
  (λhi=>by
    exact jg (af [tT 9 ((N:Int)<n) aC,iX (N:Int) n aC,.c (hp N aC:gU g ((el N 0)::cap) _),ah 16 (p N) hN]) aF) aI:kU 2 f284 (Qr nl n N el g cap 0) .ret ⟨19,false,[(4,.e (iP N))],[]⟩) .nil]) 
def aaI(nl:Bool)(n:Nat)(el:Nat->Nat->E)(g:FuncId)(cap:List E)(p:Nat->Bool)(hp:∀ i,i<n->gU g ((el i 0)::cap) (bP (p i)))(hl:n<=1000000)(jK:∀ i,i<n->p i=false):gU 284 [.sl nl n 1 el,.fn g cap] (iP (-1)):=
 an call284 func284 (af [.s (Sp.kY (Qq nl n el g cap) 0 n aC (λi hi rD=>by
    exact jg (af [tT 9 ((i:Int)<n) aC,iX (i:Int) n aC,.c (hp i aC:gU g ((el i 0)::cap) _),ai 16 (p i) (jK i aC),iu ((i:Int)+1) aC]) aF)
  (λhi=>by
    exact jg (af [tF 9 ((n:Int)<n) aC]) aF) aI:kU 2 f284 (Qq nl n el g cap 0) (.exit 0) ⟨19,false,[],[]⟩) .nil]) 
def agZ(nl:Bool)(n:Nat)(el:Nat->Nat->E)(g:FuncId)(cap:List E)(p:Nat->Bool)(hp:∀ i,i<n->gU g ((el i 0)::cap) (bP (p i)))(N:Nat)(hl:n<=1000000)(oF:N<n)(jK:∀ i,i<N->p i=false)(hN:p N=true):gU 232 [.sl nl n 1 el,.fn g cap] (bP true):=
 an call232 func232 (af [ag [.sl nl n 1 el,.fn g cap] (aaH nl n el g cap p hp N hl oF jK hN),tT 8 (0<=(N:Int)) aC]) 
def Qs(nl:Bool)(n:Nat)(el:Nat->Nat->E)(g:FuncId)(cap:List E)(p:Nat->Bool)(hp:∀ i,i<n->gU g ((el i 0)::cap) (bP (p i)))(hl:n<=1000000)(jK:∀ i,i<n->p i=false):gU 232 [.sl nl n 1 el,.fn g cap] (bP false):=
 an call232 func232 (af [ag [.sl nl n 1 el,.fn g cap] (aaI nl n el g cap p hp hl jK),ai 8 (decide ((0:Int)<=(-1))) aE]) 
def abr(nl:Bool)(n:Nat)(el:Nat->Nat->E)(g:FuncId)(cap:List E)(p:Nat->Bool)(hp:∀ i,i<n->gU g ((el i 0)::cap) (bP (p i)))(hl:n<=1000000)(jK:∀ i,i<n->p i=false):gU 358 [.sl nl n 1 el,.fn g cap] (iP (-1)):=
 an call358 func358 (af [.s (Sp.kY (QQ nl n el g cap) 0 n aC (λi hi rD=>by
    exact jg (af [tT 9 ((i:Int)<n) aC,iX (i:Int) n aC,.c (hp i aC:gU g ((el i 0)::cap) _),ai 16 (p i) (jK i aC),iu ((i:Int)+1) aC]) aF)
  (λhi=>by
    exact jg (af [tF 9 ((n:Int)<n) aC]) aF) aI:kU 2 f358 (QQ nl n el g cap 0) (.exit 0) ⟨19,false,[],[]⟩) .nil]) 
def QS(nl:Bool)(n:Nat)(el:Nat->Nat->E)(g:FuncId)(cap:List E)(p:Nat->Bool)(hp:∀ i,i<n->gU g ((el i 0)::cap) (bP (p i)))(hl:n<=1000000)(jK:∀ i,i<n->p i=false):gU 309 [.sl nl n 1 el,.fn g cap] (bP false):=
 an call309 func309 (af [ag [.sl nl n 1 el,.fn g cap] (abr nl n el g cap p hp hl jK),ai 8 (decide ((0:Int)<=(-1))) aE]) 
def aaY(nl:Bool)(n:Nat)(el:Nat->Nat->E)(g:FuncId)(cap:List E)(p:Nat->Bool)(hp:∀ i,i<n->gU g ((.agg [el i 0,el i 1,el i 2,el i 3,el i 4,el i 5,el i 6])::cap) (bP (p i)))(N:Nat)(hl:n<=1000000)(oF:N<n)(jK:∀ i,i<N->p i=false)(hN:p N=true):gU 87 [.sl nl n 7 el,.fn g cap] (iP N):=
 an call87 func87 (af [.s (Sp.kY (QD nl n N el g cap) 0 N aC (λi hi rD=>by
    exact jg (af [tT 9 ((i:Int)<n) aC,iX (i:Int) n aC,.c (hp i aC:gU g ((.agg [el i 0,el i 1,el i 2,el i 3,el i 4,el i 5,el i 6])::cap) _),ai 16 (p i) (jK i aC),iu ((i:Int)+1) aC]) aF)
  (λhi=>by
    exact jg (af [tT 9 ((N:Int)<n) aC,iX (N:Int) n aC,.c (hp N aC:gU g ((.agg [el N 0,el N 1,el N 2,el N 3,el N 4,el N 5,el N 6])::cap) _),ah 16 (p N) hN]) aF) aI:kU 2 Tryz.f87 (QD nl n N el g cap 0) .ret ⟨19,false,[(4,.e (iP N))],[]⟩) .nil]) 
def aa0(nl:Bool)(n:Nat)(el:Nat->Nat->E)(g:FuncId)(cap:List E)(p:Nat->Bool)(hp:∀ i,i<n->gU g ((.agg [el i 0,el i 1,el i 2,el i 3,el i 4,el i 5,el i 6])::cap) (bP (p i)))(hl:n<=1000000)(jK:∀ i,i<n->p i=false):gU 87 [.sl nl n 7 el,.fn g cap] (iP (-1)):=
 an call87 func87 (af [.s (Sp.kY (QC nl n el g cap) 0 n aC (λi hi rD=>by
    exact jg (af [tT 9 ((i:Int)<n) aC,iX (i:Int) n aC,.c (hp i aC:gU g ((.agg [el i 0,el i 1,el i 2,el i 3,el i 4,el i 5,el i 6])::cap) _),ai 16 (p i) (jK i aC),iu ((i:Int)+1) aC]) aF)
  (λhi=>by
    exact jg (af [tF 9 ((n:Int)<n) aC]) aF) aI:kU 2 Tryz.f87 (QC nl n el g cap 0) (.exit 0) ⟨19,false,[],[]⟩) .nil]) 
def aaZ(nl:Bool)(n:Nat)(el:Nat->Nat->E)(g:FuncId)(cap:List E)(p:Nat->Bool)(hp:∀ i,i<n->gU g ((.agg [el i 0,el i 1,el i 2,el i 3,el i 4,el i 5,el i 6])::cap) (bP (p i)))(N:Nat)(hl:n<=1000000)(oF:N<n)(jK:∀ i,i<N->p i=false)(hN:p N=true):gU 40 [.sl nl n 7 el,.fn g cap] (bP true):=
 an call40 func40 (af [ag [.sl nl n 7 el,.fn g cap] (aaY nl n el g cap p hp N hl oF jK hN),tT 8 (0<=(N:Int)) aC]) 
def BG(nl:Bool)(n:Nat)(el:Nat->Nat->E)(g:FuncId)(cap:List E)(p:Nat->Bool)(hp:∀ i,i<n->gU g ((.agg [el i 0,el i 1,el i 2,el i 3,el i 4,el i 5,el i 6])::cap) (bP (p i)))(hl:n<=1000000)(jK:∀ i,i<n->p i=false):gU 40 [.sl nl n 7 el,.fn g cap] (bP false):=
 an call40 func40 (af [ag [.sl nl n 7 el,.fn g cap] (aa0 nl n el g cap p hp hl jK),ai 8 (decide ((0:Int)<=(-1))) aE]) 
def Ga(nl:Bool)(n:Nat)(el:Nat->Nat->E)(g:FuncId)(cap:List E)(p:Nat->Bool)(hp:∀ i,i<n->gU g ((.agg [el i 0,el i 1,el i 2,el i 3,el i 4,el i 5,el i 6])::cap) (bP (p i)))(hl:n<=1000000):gU 40 [.sl nl n 7 el,.fn g cap] (bP ((List.range n).any p)):=by
 by_cases h:∃ i,i<n/\p i=true
 .obtain ⟨N,h1,h2,h3⟩:∃ N,N<n/\p N=true/\∀ i,i<N->p i=false:=vU h;refine(aaZ nl n el g cap p hp N hl h1 h3 h2).jL (.iH ?_);rw[dZ.2 ⟨N,cz.2 h1,h2⟩]
 .refine (BG nl n el g cap p hp hl λi hi=>by simpa using λq=>h ⟨i,hi,q⟩).jL (.iH ?_);rw[dp.2 λi hi q=>h ⟨i,cz.1 hi,q⟩]
def aeh(nl:Bool)(n:Nat)(el:Nat->Nat->E)(g:FuncId)(cap:List E)(p:Nat->Bool)(hp:∀ i,i<n->gU g ((el i 0)::cap) (bP (p i)))(N:Nat)(hl:n<=1000000)(oF:N<n)(jK:∀ i,i<N->p i=false)(hN:p N=true):gU 240 [.sl nl n 1 el,.fn g cap] (iP N):=
 an call240 func240 (af [.s (Sp.kY (SG nl n N el g cap) 0 N aC (λi hi rD=>by
    exact jg (af [tT 9 ((i:Int)<n) aC,iX (i:Int) n aC,.c (hp i aC:gU g ((el i 0)::cap) _),ai 16 (p i) (jK i aC),iu ((i:Int)+1) aC]) aF)
  (λhi=>by
    exact jg (af [tT 9 ((N:Int)<n) aC,iX (N:Int) n aC,.c (hp N aC:gU g ((el N 0)::cap) _),ah 16 (p N) hN]) aF) aI:kU 2 f240 (SG nl n N el g cap 0) .ret ⟨19,false,[(4,.e (iP N))],[]⟩) .nil]) 
def aen(nl:Bool)(n:Nat)(el:Nat->Nat->E)(g:FuncId)(cap:List E)(p:Nat->Bool)(hp:∀ i,i<n->gU g ((el i 0)::cap) (bP (p i)))(hl:n<=1000000)(jK:∀ i,i<n->p i=false):gU 240 [.sl nl n 1 el,.fn g cap] (iP (-1)):=
 an call240 func240 (af [.s (Sp.kY (SE nl n el g cap) 0 n aC (λi hi rD=>by
    exact jg (af [tT 9 ((i:Int)<n) aC,iX (i:Int) n aC,.c (hp i aC:gU g ((el i 0)::cap) _),ai 16 (p i) (jK i aC),iu ((i:Int)+1) aC]) aF)
  (λhi=>by
    exact jg (af [tF 9 ((n:Int)<n) aC]) aF) aI:kU 2 f240 (SE nl n el g cap 0) (.exit 0) ⟨19,false,[],[]⟩) .nil]) 
def aek(nl:Bool)(n:Nat)(el:Nat->Nat->E)(g:FuncId)(cap:List E)(p:Nat->Bool)(hp:∀ i,i<n->gU g ((el i 0)::cap) (bP (p i)))(N:Nat)(hl:n<=1000000)(oF:N<n)(jK:∀ i,i<N->p i=false)(hN:p N=true):gU 163 [.sl nl n 1 el,.fn g cap] (bP true):=
 an call163 func163 (af [ag [.sl nl n 1 el,.fn g cap] (aeh nl n el g cap p hp N hl oF jK hN),tT 8 (0<=(N:Int)) aC]) 
def ael(nl:Bool)(n:Nat)(el:Nat->Nat->E)(g:FuncId)(cap:List E)(p:Nat->Bool)(hp:∀ i,i<n->gU g ((el i 0)::cap) (bP (p i)))(hl:n<=1000000)(jK:∀ i,i<n->p i=false):gU 163 [.sl nl n 1 el,.fn g cap] (bP false):=
 an call163 func163 (af [ag [.sl nl n 1 el,.fn g cap] (aen nl n el g cap p hp hl jK),ai 8 (decide ((0:Int)<=(-1))) aE]) 
def Ln(nl:Bool)(n:Nat)(el:Nat->Nat->E)(g:FuncId)(cap:List E)(p:Nat->Bool)(hp:∀ i,i<n->gU g ((el i 0)::cap) (bP (p i)))(hl:n<=1000000):gU 163 [.sl nl n 1 el,.fn g cap] (bP ((List.range n).any p)):=by
 by_cases h:∃ i,i<n/\p i=true
 .obtain ⟨N,h1,h2,h3⟩:∃ N,N<n/\p N=true/\∀ i,i<N->p i=false:=vU h;refine(aek nl n el g cap p hp N hl h1 h3 h2).jL (.iH ?_);rw[dZ.2 ⟨N,cz.2 h1,h2⟩]
 .refine (ael nl n el g cap p hp hl λi hi=>by simpa using λq=>h ⟨i,hi,q⟩).jL (.iH ?_);rw[dp.2 λi hi q=>h ⟨i,cz.1 hi,q⟩]
end Go.Proofs.YtkjkcjhacddojaaGreatDoor
