/- Lemmas that the last file uses. -/
import Derived.Test.YtbhhompalmdaiaaGreatDoorM01
import Derived.Deep.DeepCutAuto
import Derived.Deep.Slices
import Derived.Carry
import Derived.Scope
set_option linter.unusedSimpArgs false
set_option linter.unusedVariables false
set_option linter.defProp false
set_option maxHeartbeats 4000000
open Go.Proofs.Tryz
namespace Go.Proofs.YtbhhompalmdaiaaGreatDoor
open Go.RowKit Fp
def ND(n c:Nat)(hc:n<=c)(hn:c<=10000000000)(w:World):
 (Instr.makeSlice 26 (.int .i64 (n:Int)) (.int .i64 (c:Int))).run prog w = .ok (.slice (some ⟨w.heap.size,0,none⟩) n c) (w.alloc (.cells (nY (List.replicate c 0)).toArray 72)):=by
 obtain⟨i,hi,hz,h1,h2⟩:=info_parts Ng;have hr:=run_make (P:=prog) w 26 72 i _ underlying26 hi hz .i64 .i64 n c aD aD (by rw[h2];omega) aD;rw[hr,fY,fY,h1,cg];refine congrArg (λcs=>Result.ok (Value.slice (some ⟨w.heap.size,0,none⟩) n c) (w.alloc (.cells cs 72))) ?_;apply Array.ext
 .simp [madeCells,nY]
 .intro i h1 h2;simp[madeCells,nY,Value.cells,dn]
def Ow.xR(w:World)(base n c:Nat)(hb:base<=w.heap.size)(hc:n<=c)(hn:c<=10000000000):
 Ow (w.alloc (.cells (nY (List.replicate c 0)).toArray 72)) base (.slice (some ⟨w.heap.size,0,none⟩) n c) (List.replicate n 0):=
 ⟨⟨by simp[nY],.inr ⟨w.heap.size,c,_,aJ,hb,heap_alloc_new w _,by simpa using hc,by simp only[maxLen];omega,by simp[nY],by
  simp[nY,List.take_replicate,dD hc]⟩⟩,iK.BT n⟩
def iG.own{w w1 w2:World}(h:iG w w1)(v:Value)(L:List Nat)(ho:Ow w1 w.heap.size v L)(hg:w1.grownBy w2 v.ownBlock):iG w w2:=
 h.grown hg h.size (λk hk=>(ho.row.lt k hk).1)
def Pl(x q s:Nat)(hx:x<4294967296)(hs:s<32)(hq:q<2^s):
 bits BinOp.or IntKind.u64 (IntKind.u64.wrap ((x:Int)*2^s)) (q:Int)=((x*2^s+q:Nat):Int)/\x*2^s+q<18446744073709551616/\(x*2^s+q)/4294967296<2^s:=by
 have hp:2^s<=2^31:=bI aF aD;have e31:(2:Nat)^31=2147483648:= aF ;have h1:(x+1)*2^s<=4294967296*2^s:=bR _ hx;rw[b8,ck]at h1;have h2:x*2^s<4294967296*2^s:=dg hx (bA aF);refine⟨?_,aD,aD⟩;have e:((x:Int)*2^s)=((x*2^s:Nat):Int):= aJ ;rw[e,IntKind.wrap_u64,show((x*2^s:Nat):Int)%18446744073709551616=((x*2^s:Nat):Int)by omega,Kf _ _ aD aD,gq,Au q x s hq,eR]
def aho(A:Option Addr)(c:Nat)(L:List Nat)(n:Nat)(w:World)(hs:Sl w A c L)(hlen:L.length<=100000000)(hn:n<=65536):
 Calls prog 230 #[.slice A L.length c,.int .i64 n] w (λe w'=>∃ T,val T=val L*2^n/\iK T/\T.length=n/32+(iy L).length+1/\sR w T e w'):=by
 have hT:=anQ (uD A c L w hs);have kK:=hs.tL;have nt:=oF L;have hC:=kK.cap;have hL:=hs.pS;unfold mn at nt;have hv:=anQ (oG L);generalize iy L=M at *
 obtain⟨m,hm⟩:∃ m,m=M.length:=⟨_,rfl⟩
 rw[<-hm]at hT nt hC;have HM:=anQ hm;clear hm;have oV:=ND (n/32) (n/32+m+1) aD aD;rw[show((n/32:Nat):Int)=n/32 by omega,show((n/32+m+1:Nat):Int)=n/32+m+1 by omega]at oV;have Es:=anQ (Ow.xR w w.heap.size (n/32) (n/32+m+1) (bp _) aD aD);go_enter func230,ntmps230;go_wp2_with fail;refine hT.out.mono ?_;rintro e w' ⟨rfl,rfl⟩;go_wp2;go_loopw [5,6,23] (λv cy i wr=>∃ (k q:Nat) (O:List Nat),k<=m/\i = .int .i64 k/\cy = .int .u64 q/\q<2^(n%32)/\O.length=n/32+k/\val O+4294967296^(n/32+k)*q=val (M.take k)*2^(n%32)*4294967296^(n/32)/\Ow wr w.heap.size v O/\iG w wr) (λ_ _ i _=>m-(intOf i).toNat)
 case atStart=>
  exact⟨0,0,List.replicate (n/32) 0,ch _,rfl,rfl,bA aF,aJ,by simp[zz],Es.out,iG.alloc _ _⟩
 case round=>
  obtain⟨k,q,O,hk,rfl,rfl,hq,hO,lr,lq,hb⟩:=hrel;have HV:=anQ lr;have HO:=anQ hO;have Er:O.length<=200000000:= aD ;have uj:=anQ hq;clear lr hO hq;obtain⟨OA,Oc,rfl,yQ⟩:=lq.sl;by_cases iO:k<m
  .have oU:k<M.length:=by have:=HM.out;omega
   obtain⟨ab,ao,rfl,_,c1⟩:=(kK.below hb).lL oU;have mJ:M[k]<4294967296:=kK.ok.get oU;have HX:=anQ (Pk (c:=q) (s:=n%32) (n0:=n/32) oU HO.out HV.out);generalize M[k]=x at *
   obtain⟨hw,yV,tE⟩:=Pl x q (n%32) mJ (bC _ aF) uj.out;generalize x*2^(n%32)+q=z at *
   have EZ:=anQ tE;clear tE;have lT:O.length+[z%4294967296].length<=10000000000:= aR ;go_wp2_with (at_builtin;go_must (refine qQ aI _ _ aI w.heap.size _ O aI (lq.alloc _) _ _ _ [z%4294967296] aI aI (Sl.s6 _ _ (z%4294967296) aD aD) lT (pR hb.size _) ?_);intro v' w1 oo hg oO)
   go_roundw
   case rel=>
    exact⟨k+1,z/4294967296,O++[z%4294967296],aD,by go_num,by go_num,EZ.out,by rw[cJ,HO.out];rfl,HX.out,oo,(hb.trans (iG.alloc _ _)).own _ _ (lq.alloc _) hg⟩
   case measure=>simp[intOf];omega
  .obtain rfl:k=m:= aD ;have lT:O.length+[q].length<=10000000000:= aR ;have IH:q<4294967296:=by
    have:=uj.out;have hp:2^(n%32)<=2^31:=bI aF aD;have e31:(2:Nat)^31=2147483648:= aF ;omega
   have UQ:(q:Int)%4294967296=q:= aD ;go_wp2_with (at_builtin;go_must (refine qQ aI _ _ aI w.heap.size _ O aI (lq.alloc _) _ _ _ [q] aI aI (Sl.s6 _ _ q aD aD) lT (pR hb.size _) ?_);intro v' w1 oo hg oO)
   obtain⟨A',c',rfl,mQ⟩:=oo.sl;go_ret;refine⟨O++[q],?_,mQ.ok,by rw[cJ,HO.out,<-HM.out];rfl,A',c',rfl,mQ,(hb.trans (iG.alloc _ _)).own _ _ (lq.alloc _) hg⟩;have h:=HV.out;rw[cP (by rw[HM.out];exact bp _)]at h;rw[uK,HO.out,qj,zw,cQ,bK,h,<-hv.out,nF,bB,<-bw];congr 2;omega
def NP(A:Option Addr)(c:Nat)(L:List Nat)(n:Nat)(w:World)(hs:Sl w A c L)(hlen:L.length<=256)(hn:n<=65536)(oe:(ij (val L*2^n)).length<=256):
 Calls prog 157 #[.slice A L.length c,.int .i64 n] w (Cf w (ij (val L*2^n)) 0):=by
 have H1:=anQ (λw (h:Sl w A c L)=>aho A c L n w h aD hn);obtain⟨R,hR⟩:∃ R,R=ij (val L*2^n):=⟨_,rfl⟩
 rw[<-hR]at oe ⊢;have HR:=anQ hR;clear hR;go_enter func157,ntmps157;go_wp2_with fail;refine(Nz _ A _ c _ false (P7 _ _ _ _) aR).mono ?_;rintro e w' ⟨rfl,rfl⟩;go_wp2_with fail;refine(H1.out _ (hs.alloc _)).mono ?_;rintro e w' ⟨T,hT,Eu,-,A',c',rfl,mQ,hb⟩;have h3:=anQ (show iy T=R by rw[rJ Eu,hT,HR.out]);clear hT Eu;go_wp2_with fail;refine(FF A' c' T _ mQ (by rw[h3.out];exact oe)).mono ?_;rintro e w'' ⟨A'',c'',rfl,qu,ns⟩;go_wp2;go_ret2;rw[<-h3.out];exact⟨A'',c'',rfl,qu,(iG.alloc _ _).trans (hb.trans ns)⟩
def akK(A:Option Addr)(c:Nat)(L:List Nat)(n:Nat)(w:World)(hs:Sl w A c L)(hlen:L.length<=256)(hn:n<=65536)(oe:(ij (val L*2^n)).length<=256):
 Calls prog 213 #[.slice A L.length c,.int .i64 n] w (sR w (ij (val L*2^n))):=by
 have H1:=anQ (NP A c L n w hs hlen hn oe);generalize ij (val L*2^n)=R at *
 go_enter func213,ntmps213;go_wp2_with fail;refine H1.out.mono ?_;rintro e w'' ⟨A'',c'',rfl,qu,ns⟩;go_wp2;go_ret;exact⟨A'',c'',rfl,qu,ns⟩
def PF(a b:Nat)(ha:a<18446744073709551616)(hb:b<18446744073709551616):bits .and .u64 (a:Int) (b:Int)=((a &&& b:Nat):Int):=by
 have hx:a &&& b<2^64:=fJ _ aD;have h1:(BitVec.ofInt 64 (a:Int)).toNat=a:=by
  rw[gV,gW];exact bQ aD 
 have h2:(BitVec.ofInt 64 (b:Int)).toNat=b:=by
  rw[gV,gW];exact bQ aD 
 show IntKind.u64.wrap ((BitVec.ofInt 64 (a:Int) &&& BitVec.ofInt 64 (b:Int)).toNat:Int)=_;rw[BitVec.toNat_and,h1,h2,IntKind.wrap_u64];omega
def wi(z:Nat)(hz:z<18446744073709551616):bits BinOp.and IntKind.u64 (z:Int) 4294967295=(z:Int)%4294967296:=by
 have e:(4294967295:Int)=((4294967295:Nat):Int):=rfl;rw[e,PF z _ hz aD,show(4294967295:Nat)=2^32-1 by decide,anN];simp
def ajz(A:Option Addr)(c:Nat)(M:List Nat)(n:Nat)(w:World)(kK:Sl w A c M)(hlen:M.length<=1000)(hn:n<=65536):
 Calls prog 257 #[.slice A M.length c,.int .i64 n] w (sR w (ij (val M*2^n))):=by
 have hC:=kK.cap;have hL:=kK.pS;obtain⟨m,hm⟩:∃ m,m=M.length:=⟨_,rfl⟩
 rw[<-hm]at hlen hC ⊢;have HM:=anQ hm;clear hm;have oV:=ND (n/32) (n/32) aD aD;rw[show((n/32:Nat):Int)=n/32 by omega]at oV;have Es:=anQ (Ow.xR w w.heap.size (n/32) (n/32) (bp _) aD aD);go_enter func257,ntmps257;go_wp2;go_loopw [5,6,7] (λv cy i wr=>∃ (k q:Nat) (O:List Nat),k<=m/\i = .int .i64 k/\cy = .int .u64 q/\q<2^(n%32)/\O.length=n/32+k/\val O+4294967296^(n/32+k)*q=val (M.take k)*2^(n%32)*4294967296^(n/32)/\Ow wr w.heap.size v O/\iG w wr) (λ_ _ i _=>m-(intOf i).toNat)
 case atStart=>
  exact⟨0,0,List.replicate (n/32) 0,ch _,rfl,rfl,bA aF,aJ,by simp[zz],Es.out,iG.alloc _ _⟩
 case round=>
  obtain⟨k,q,O,hk,rfl,rfl,hq,hO,lr,lq,hb⟩:=hrel;have HV:=anQ lr;have HO:=anQ hO;have Er:O.length<=3100:= aD ;have uj:=anQ hq;clear lr hO hq;obtain⟨OA,Oc,rfl,yQ⟩:=lq.sl;by_cases iO:k<m
  .have oU:k<M.length:=by have:=HM.out;omega
   obtain⟨ab,ao,rfl,_,c1⟩:=(kK.below hb).lL oU;have mJ:M[k]<4294967296:=kK.ok.get oU;have HX:=anQ (Pk (c:=q) (s:=n%32) (n0:=n/32) oU HO.out HV.out);generalize M[k]=x at *
   obtain⟨hw,yV,tE⟩:=Pl x q (n%32) mJ (bC _ aF) uj.out;generalize x*2^(n%32)+q=z at *
   have EZ:=anQ tE;clear tE;have lT:O.length+[z%4294967296].length<=10000000000:= aR ;have uf:=wi z yV;go_wp2_with (at_builtin;go_must (refine qQ aI _ _ aI w.heap.size _ O aI (lq.alloc _) _ _ _ [z%4294967296] aI aI (Sl.s6 _ _ (z%4294967296) aD aD) lT (pR hb.size _) ?_);intro v' w1 oo hg oO)
   go_roundw
   case rel=>
    exact⟨k+1,z/4294967296,O++[z%4294967296],aD,by go_num,by go_num,EZ.out,by rw[cJ,HO.out];rfl,HX.out,oo,(hb.trans (iG.alloc _ _)).own _ _ (lq.alloc _) hg⟩
   case measure=>simp[intOf];omega
  .obtain rfl:k=m:= aD ;have lT:O.length+[q].length<=10000000000:= aR ;have IH:q<4294967296:=by
    have:=uj.out;have hp:2^(n%32)<=2^31:=bI aF aD;have e31:(2:Nat)^31=2147483648:= aF ;omega
   have UQ:(q:Int)%4294967296=q:= aD ;have wJ:Hid (iy (O++[q])=ij (val M*2^n)):=by
    show iy (O++[q])=ij (val M*2^n);rw[rJ (lq.ok.append (iK.cons IH iK.nil))];have h:=HV.out;rw[cP (by rw[HM.out];exact bp _)]at h;rw[uK,HO.out,qj,zw,cQ,bK,h,nF,bB,<-bw];congr 3;omega
   go_wp2_with (at_builtin;go_must (refine qQ aI _ _ aI w.heap.size _ O aI (lq.alloc _) _ _ _ [q] aI aI (Sl.s6 _ _ q aD aD) lT (pR hb.size _) ?_);intro v' w1 oo hg oO;obtain⟨P,hP⟩:∃ P,P=O++[q]:=⟨_,rfl⟩;rw[<-hP]at oo wJ;have Ia:P.length<=3101:=(by rw[hP];simp;omega);clear hP;obtain⟨A',c',rfl,mQ⟩:=oo.sl)
   refine(BR A' c' P _ mQ aD).mono ?_;rintro e w' ⟨A'',c'',rfl,qu,ns⟩;go_wp2;go_ret;rw[<-wJ.out];exact⟨A'',c'',rfl,qu,((hb.trans (iG.alloc _ _)).own _ _ (lq.alloc _) hg).trans ns⟩
def akU(x y s:Nat)(hx:x<4294967296)(hy:y<4294967296):
 bits BinOp.and IntKind.u64 (bits BinOp.or IntKind.u64 (x:Int) ((y:Int)*4294967296)/2^s) 4294967295=(((x+4294967296*y)/2^s%4294967296:Nat):Int):=by
 have e:((y:Int)*4294967296)=((y*2^32:Nat):Int):= aJ ;rw[e,Kf x (y*2^32) aD aD,Au x y 32 aD];have h:(x+y*2^32)/2^s<18446744073709551616:=cK (cE _ _) aD;have h2:=wi _ h;rw[show(((x+y*2^32:Nat):Int)/2^s)=(((x+y*2^32)/2^s:Nat):Int)by simp,h2];simp[bE]
def akT(x s:Nat)(hx:x<4294967296):bits BinOp.and IntKind.u64 ((x:Int)/2^s) 4294967295=(((x+4294967296*0)/2^s%4294967296:Nat):Int):=by
 have h:x/2^s<18446744073709551616:=cK (cE _ _) aD;rw[show((x:Int)/2^s)=((x/2^s:Nat):Int)by simp,wi _ h];simp
def ajH(A:Option Addr)(c:Nat)(M:List Nat)(n:Nat)(w:World)(kK:Sl w A c M)(hlen:M.length<=3000)(hn:n<=100000):
 Calls prog 161 #[.slice A M.length c,.int .i64 n] w (sR w (ij (val M/2^n))):=by
 have hC:=kK.cap;have hL:=kK.pS;have wJ:Hid (iy (qC (n%32) (M.drop (n/32)))=ij (val M/2^n)):=by
  show _=_;rw[rJ (FM _ _),PI kK.ok]
 obtain⟨R,hR⟩:∃ R,R=ij (val M/2^n):=⟨_,rfl⟩
 rw[<-hR]at wJ ⊢;clear hR;obtain⟨m,hm⟩:∃ m,m=M.length:=⟨_,rfl⟩
 rw[<-hm]at hlen hC ⊢;have HM:=anQ hm;clear hm;by_cases h0:m<=n/32
 .go_enter func161,ntmps161;go_wp2;go_ret;have:M.drop (n/32)=[]:=eK (by rw[<-HM.out];exact h0);have h:=wJ.out;rw[this]at h;rw[<-h];exact⟨none,0,rfl,Sl.nil _,iG.refl _⟩
 .obtain ⟨ab,ao,rfl,_,_⟩:=kK.lL (i:=0) (by have:=HM.out;omega);have hK:=kK.drop (n/32);have ub:=anQ (show m-n/32=(M.drop (n/32)).length by rw[fh,HM.out]);have qs:n/32<c:= aD ;have oN:0<m-n/32:= aD ;have qb:m-n/32<=3000:= aD ;generalize M.drop (n/32)=K at *
  simp only[c9,DS]at hK;have wD:=anQ (J1 (n%32) K);have Md:=anQ (YJ (n%32) K);have Eu:=anQ (FM (n%32) K);generalize qC (n%32) K=T at *
  go_enter func161,ntmps161;go_wp2;go_loopw [5,6] (λv i wr=>∃ (k:Nat) (O:List Nat),k<=m-n/32/\i = .int .i64 k/\O=T.take k/\Ow wr w.heap.size v O/\iG w wr) (λ_ i _=>m-n/32-(intOf i).toNat)
  case atStart=>
   exact⟨0,[],ch _,rfl,aJ,Ow.nil _ _,iG.refl _⟩
  case round=>
   obtain⟨k,O,hk,rfl,hO,lq,hb⟩:=hrel;have Er:O.length<=3000:=by rw[hO,cG];omega
   have HO:=anQ hO;clear hO;obtain⟨OA,Oc,rfl,yQ⟩:=lq.sl;by_cases iO:k<m-n/32
   .have ud:k<K.length:=by have:=ub.out;omega
    obtain⟨ab',ao',e',_,c1⟩:=(hK.below hb).lL ud;cases e';have hg:=Md.out k ud;have mJ:K[k]<4294967296:=hK.ok.get ud;have HK:=anQ (bD ud);by_cases EG:k+1<m-n/32
    .have yL:k+1<K.length:=by have:=ub.out;omega
     obtain⟨ab',ao',e',_,c2⟩:=(hK.below hb).lL yL;cases e';have hy:K.getD (k+1) 0=K[k+1]:=by rw[bu,bD yL];rfl
     rw[hy]at hg;have ph:K[k+1]<4294967296:=hK.ok.get yL;have HG:=anQ hg;clear hg hy;generalize K[k]=x at *
     generalize K[k+1]=y at *
     clear ud yL;have hw:=akU x y (n%32) mJ ph;have hz:(x+4294967296*y)/2^(n%32)%4294967296<4294967296:=bC _ aF;generalize (x+4294967296*y)/2^(n%32)%4294967296=z at *
     have lT:O.length+[z].length<=10000000000:= aR ;go_wp2_with (at_builtin;go_must (refine qQ aI _ _ aI w.heap.size _ O aI (lq.alloc _) _ _ _ [z] aI aI (Sl.s6 _ _ z aD aD) lT (pR hb.size _) ?_);intro v' w1 oo hg oO)
     go_roundw
     case rel=>
      exact⟨k+1,O++[z],aD,by go_num,by rw[HO.out,ank,HG.out];rfl,oo,(hb.trans (iG.alloc _ _)).own _ _ (lq.alloc _) hg⟩
     case measure=>simp[intOf];omega
    .have hy:K.getD (k+1) 0=0:=by rw[bu,cw (by have:=ub.out;omega)];rfl
     rw[hy]at hg;have HG:=anQ hg;clear hg hy;generalize K[k]=x at *
     clear ud;have hw:=akT x (n%32) mJ;have hz:(x+4294967296*0)/2^(n%32)%4294967296<4294967296:=bC _ aF;generalize (x+4294967296*0)/2^(n%32)%4294967296=z at *
     have lT:O.length+[z].length<=10000000000:= aR ;go_wp2_with (at_builtin;go_must (refine qQ aI _ _ aI w.heap.size _ O aI (lq.alloc _) _ _ _ [z] aI aI (Sl.s6 _ _ z aD aD) lT (pR hb.size _) ?_);intro v' w1 oo hg oO)
     go_roundw
     case rel=>
      exact⟨k+1,O++[z],aD,by go_num,by rw[HO.out,ank,HG.out];rfl,oo,(hb.trans (iG.alloc _ _)).own _ _ (lq.alloc _) hg⟩
     case measure=>simp[intOf];omega
   .have hOT:Hid (iy O=R):=by
     show iy O=R;rw[HO.out,cP (by rw[wD.out,<-ub.out];omega)];exact wJ.out
    go_wp2_with fail;refine(BR OA Oc O _ yQ aD).mono ?_;rintro e w' ⟨A'',c'',rfl,qu,ns⟩;go_wp2;go_ret;rw[<-hOT.out];exact⟨A'',c'',rfl,qu,hb.trans ns⟩
def zQ{L:List Nat}{k:Nat}(h:k<L.length):L.getD k 0=L[k]:=by
 rw[bu,bD h];rfl
def CB{L:List Nat}{k:Nat}(h:¬k<L.length):L.getD k 0=0:=by
 rw[bu,cw aD];rfl
def ajC(A B:Option Addr)(c d:Nat)(L M:List Nat)(w:World)(hs:Sl w A c L)(hr:Sl w B d M)(h1:L.length<=3000)(h2:M.length<=3000):
 Calls prog 258 #[.slice A L.length c,.slice B M.length d] w (sR w (ij (val L+val M))):=by
 have HLl:=anQ (rfl:L.length=L.length);obtain⟨l,hl⟩:∃ l,l=L.length:=⟨_,rfl⟩
 obtain⟨m,hm⟩:∃ m,m=M.length:=⟨_,rfl⟩
 rw[<-hl]at h1 ⊢;rw[<-hm]at h2 ⊢;have HL:=anQ hl;have HM:=anQ hm;clear hl hm HLl;go_enter func258,ntmps258;go_wp2;go_loopw [5,6,7] (λv cy i wr=>∃ (k q:Nat) (O:List Nat),(k<=l\/k<=m)/\i = .int .i64 k/\cy = .int .u64 q/\q<=1/\O.length=k/\val O+4294967296^k*q=val (L.take k)+val (M.take k)/\Ow wr w.heap.size v O/\iG w wr) (λ_ _ i _=>3000-(intOf i).toNat)
 case atStart=>exact⟨0,0,[],.inl (ch _),rfl,rfl,aF,rfl,aJ,Ow.nil _ _,iG.refl _⟩
 case round=>
  obtain⟨k,q,O,hk,rfl,rfl,hq,hO,lr,lq,hb⟩:=hrel;have HS:=anQ (Z5 (x:=L.getD k 0) (y:=M.getD k 0) hO lr (uL L k) (uL M k));have HV:=anQ lr;have HO:=anQ hO;have Er:O.length<=3000:= aD ;have MN:k<=3000:= aD ;clear lr hO hk;obtain⟨OA,Oc,rfl,yQ⟩:=lq.sl;have uf:=λz:Nat=>λh:z<8589934593=>wi z aD 
  by_cases hl:k<l
  .have UG:(k:Int)<l:= aD ;have ue:k<L.length:=by have:=HL.out;omega
   obtain⟨ab,ao,rfl,_,c1⟩:=(hs.below hb).lL ue;have mJ:L[k]<4294967296:=hs.ok.get ue;rw[zQ ue]at HS;generalize L[k]=x at *
   clear ue;by_cases hm:k<m
   .have IB:(k:Int)<m:= aD ;have oU:k<M.length:=by have:=HM.out;omega
    obtain⟨bb,bo,rfl,_,c2⟩:=(hr.below hb).lL oU;have ph:M[k]<4294967296:=hr.ok.get oU;rw[zQ oU]at HS;generalize M[k]=y at *
    clear oU;have oV:=uf (q+x+y) aD;simp only[fj]at oV;clear uf;have lT:O.length+[(q+x+y)%4294967296].length<=10000000000:= aR ;go_wp2_with (at_builtin;go_must (refine qQ aI _ _ aI w.heap.size _ O aI (lq.alloc _) _ _ _ [(q+x+y)%4294967296] aI aI (Sl.s6 _ _ ((q+x+y)%4294967296) aD aD) lT (pR hb.size _) ?_);intro v' w1 oo hg oO)
    go_roundw
    case rel=>
     exact⟨k+1,(q+x+y)/4294967296,O++[(q+x+y)%4294967296],aD,by go_num,by go_num,aD,by rw[cJ,HO.out];rfl,HS.out,oo,(hb.trans (iG.alloc _ _)).own _ _ (lq.alloc _) hg⟩
    case measure=>simp[intOf];omega
   .have IB:¬(k:Int)<m:= aD ;rw[CB (by have:=HM.out;omega)]at HS;have oV:=uf (q+x+0) aD;simp only[fj,bK]at oV;clear uf;have lT:O.length+[(q+x+0)%4294967296].length<=10000000000:= aR ;go_wp2_with (at_builtin;go_must (refine qQ aI _ _ aI w.heap.size _ O aI (lq.alloc _) _ _ _ [(q+x+0)%4294967296] aI aI (Sl.s6 _ _ ((q+x+0)%4294967296) aD aD) lT (pR hb.size _) ?_);intro v' w1 oo hg oO)
    go_roundw
    case rel=>
     exact⟨k+1,(q+x+0)/4294967296,O++[(q+x+0)%4294967296],aD,by go_num,by go_num,aD,by rw[cJ,HO.out];rfl,HS.out,oo,(hb.trans (iG.alloc _ _)).own _ _ (lq.alloc _) hg⟩
    case measure=>simp[intOf];omega
  .have UG:¬(k:Int)<l:= aD ;have hlF:decide ((k:Int)<l)=false:=by simpa using UG
   rw[CB (L:=L) (by have:=HL.out;omega)]at HS;by_cases hm:k<m
   .have IB:(k:Int)<m:= aD ;have oU:k<M.length:=by have:=HM.out;omega
    obtain⟨bb,bo,rfl,_,c2⟩:=(hr.below hb).lL oU;have ph:M[k]<4294967296:=hr.ok.get oU;rw[zQ oU]at HS;generalize M[k]=y at *
    clear oU;have oV:=uf (q+0+y) aD;simp only[fj,bK]at oV;clear uf;have lT:O.length+[(q+0+y)%4294967296].length<=10000000000:= aR ;go_wp2_with (at_builtin;go_must (refine qQ aI _ _ aI w.heap.size _ O aI (lq.alloc _) _ _ _ [(q+0+y)%4294967296] aI aI (Sl.s6 _ _ ((q+0+y)%4294967296) aD aD) lT (pR hb.size _) ?_);intro v' w1 oo hg oO)
    go_roundw
    case rel=>
     exact⟨k+1,(q+0+y)/4294967296,O++[(q+0+y)%4294967296],aD,by go_num,by go_num,aD,by rw[cJ,HO.out];rfl,HS.out,oo,(hb.trans (iG.alloc _ _)).own _ _ (lq.alloc _) hg⟩
    case measure=>simp[intOf];omega
   .have IB:¬(k:Int)<m:= aD ;clear uf;have IH:(q:Int)%4294967296=q:= aD ;have wJ:Hid (iy (O++[q])=ij (val L+val M)):=by
     show iy (O++[q])=_;rw[rJ (lq.ok.append (iK.cons aD iK.nil)),uK,HO.out];have h:=HV.out;rw[cP (by have:=HL.out;omega),cP (by have:=HM.out;omega)]at h;simp only[qj,zw,cQ,bK];rw[h]
    have lT:O.length+[q].length<=10000000000:= aR ;go_wp2_with (at_builtin;go_must (refine qQ aI _ _ aI w.heap.size _ O aI (lq.alloc _) _ _ _ [q] aI aI (Sl.s6 _ _ q aD aD) lT (pR hb.size _) ?_);intro v' w1 oo hg oO;obtain⟨P,hP⟩:∃ P,P=O++[q]:=⟨_,rfl⟩;rw[<-hP]at oo wJ;have Ia:P.length<=3001:=(by rw[hP];simp;omega);clear hP;obtain⟨A',c',rfl,mQ⟩:=oo.sl)
    refine(BR A' c' P _ mQ aD).mono ?_;rintro e w' ⟨A'',c'',rfl,qu,ns⟩;go_wp2;go_ret;rw[<-wJ.out];exact⟨A'',c'',rfl,qu,((hb.trans (iG.alloc _ _)).own _ _ (lq.alloc _) hg).trans ns⟩
def alW(x s:Nat)(hx:x<4294967296):bits BinOp.and IntKind.u32 ((x:Int)/2^s) 1=((x/2^s%2:Nat):Int):=by
 have h:x/2^s<4294967296:=cK (cE _ _) aD;rw[show((x:Int)/2^s)=((x/2^s:Nat):Int)by simp,show(1:Int)=((1:Nat):Int)from rfl,bits_and_u32_nat _ _ h aF,gX]
def ajS(A:Option Addr)(c:Nat)(L:List Nat)(w:World)(hs:Sl w A c L)(h1:L.length<=3000)(h0:val L≠0):
 Calls prog 160 #[.slice A L.length c] w λe w'=>e = .returned (.int .i64 (kr (val L)))/\w=w':=by
 have hz:=D3 hs.ok h0;have HB:=anQ (λk (hk:k<kr (val L))=>QU h0 hk);have HE:=anQ (QT h0);have HV:=anQ (λk=>KL hs.ok k);generalize kr (val L)=t at *
 go_enter func160,ntmps160;go_wp2;go_loop [3] (λi=>∃ k:Nat,k<=t/\i = .int .i64 k) (λi=>t-(intOf i).toNat)
 case atStart=>exact⟨0,ch _,rfl⟩
 case round=>
  obtain⟨k,hk,rfl⟩:=hrel;have ue:k/32<L.length:= aD ;obtain⟨ab,ao,rfl,_,c1⟩:=hs.lL ue;have hv:=HV.out k ue;have mJ:L[k/32]<4294967296:=hs.ok.get ue;generalize L[k/32]=x at *
  clear HV;have tu:=alW x (k%32) mJ;rw[<-hv]at tu;clear hv;by_cases hkt:k<t
  .rw [HB.out k hkt]at tu;have hb:(bits BinOp.and IntKind.u32 ((x:Int)/2^(k%32)) 1==0)=true:=by rw[tu];rfl
   clear tu;go_wp2;go_round
   case rel=>exact⟨k+1,aD,by go_num⟩
   case measure=>simp[intOf];omega
  .obtain rfl:k=t:= aD ;rw[HE.out]at tu;have hb:(bits BinOp.and IntKind.u32 ((x:Int)/2^(k%32)) 1==0)=false:=by rw[tu];rfl
   clear tu;go_wp2;go_ret;exact⟨rfl,rfl⟩
def ajA(A B:Option Addr)(c d:Nat)(L M:List Nat)(w:World)(hs:Sl w A c L)(hr:Sl w B d M)(h1:L.length<=3000)(h2:M.length<=L.length)(hle:val M<=val L):
 Calls prog 260 #[.slice A L.length c,.slice B M.length d] w (sR w (ij (val L-val M))):=by
 obtain⟨l,hl⟩:∃ l,l=L.length:=⟨_,rfl⟩
 obtain⟨m,hm⟩:∃ m,m=M.length:=⟨_,rfl⟩
 rw[<-hl]at h1 h2 ⊢;rw[<-hm]at h2 ⊢;have HL:=anQ hl;have HM:=anQ hm;clear hl hm;have HLE:=anQ hle;clear hle;go_enter func260,ntmps260;go_wp2;go_loopw [5,6,7] (λv cy i wr=>∃ (k q:Nat) (O:List Nat),k<=l/\i = .int .i64 k/\cy = .int .u64 q/\q<=1/\O.length=k/\val O+val (M.take k)=val (L.take k)+4294967296^k*q/\Ow wr w.heap.size v O/\iG w wr) (λ_ _ i _=>l-(intOf i).toNat)
 case atStart=>exact⟨0,0,[],ch _,rfl,rfl,aF,rfl,aJ,Ow.nil _ _,iG.refl _⟩
 case round=>
  obtain⟨k,q,O,hk,rfl,rfl,hq,hO,lr,lq,hb⟩:=hrel;have HS:=anQ (λ(x y:Nat) (e1:L.getD k 0=x) (e2:M.getD k 0=y) (dd c':Nat)=>ald (x:=x) (y:=y) (d:=dd) (c':=c') hO lr ((uL L k).trans (by rw[e1])) ((uL M k).trans (by rw[e2])));have HV:=anQ lr;have HO:=anQ hO;have Er:O.length<=3000:= aD ;clear lr hO;obtain⟨OA,Oc,rfl,yQ⟩:=lq.sl;by_cases hl:k<l
  .have ue:k<L.length:=by have:=HL.out;omega
   obtain⟨ab,ao,rfl,_,c1⟩:=(hs.below hb).lL ue;have mJ:L[k]<4294967296:=hs.ok.get ue;have HX:=anQ (zQ ue);generalize L[k]=x at *
   clear ue;by_cases hm:k<m
   .have oU:k<M.length:=by have:=HM.out;omega
    obtain⟨bb,bo,rfl,_,c2⟩:=(hr.below hb).lL oU;have ph:M[k]<4294967296:=hr.ok.get oU;have HY:=anQ (zQ oU);generalize M[k]=y at *
    clear oU;have oV:=wi (x+4294967296-(q+y)) aD;rw[show((x+4294967296-(q+y):Nat):Int)=x+4294967296-(q+y)by omega]at oV;have lT:O.length+[(x+4294967296-(q+y))%4294967296].length<=10000000000:= aR ;go_wp2_with (at_builtin;go_must (refine qQ aI _ _ aI w.heap.size _ O aI (lq.alloc _) _ _ _ [(x+4294967296-(q+y))%4294967296] aI aI (Sl.s6 _ _ ((x+4294967296-(q+y))%4294967296) aD aD) lT (pR hb.size _) ?_);intro v' w1 oo hg oO)
    go_roundw
    case rel=>
     exact⟨k+1,1-(x+4294967296-(q+y))/4294967296,O++[(x+4294967296-(q+y))%4294967296],aD,by go_num,by rw[show(1-((x:Int)+4294967296-(q+y))/4294967296)=((1-(x+4294967296-(q+y))/4294967296:Nat):Int)by omega],aD,by rw[cJ,HO.out];rfl,HS.out x y HX.out HY.out _ _ aD,oo,(hb.trans (iG.alloc _ _)).own _ _ (lq.alloc _) hg⟩
    case measure=>simp[intOf];omega
   .have IB:¬(k:Int)<m:= aD ;have HY:=anQ (CB (L:=M) (k:=k) (by have:=HM.out;omega));have oV:=wi (x+4294967296-q) aD;rw[show((x+4294967296-q:Nat):Int)=x+4294967296-q by omega]at oV;have lT:O.length+[(x+4294967296-q)%4294967296].length<=10000000000:= aR ;go_wp2_with (at_builtin;go_must (refine qQ aI _ _ aI w.heap.size _ O aI (lq.alloc _) _ _ _ [(x+4294967296-q)%4294967296] aI aI (Sl.s6 _ _ ((x+4294967296-q)%4294967296) aD aD) lT (pR hb.size _) ?_);intro v' w1 oo hg oO)
    go_roundw
    case rel=>
     exact⟨k+1,1-(x+4294967296-q)/4294967296,O++[(x+4294967296-q)%4294967296],aD,by go_num,by rw[show(1-((x:Int)+4294967296-q)/4294967296)=((1-(x+4294967296-q)/4294967296:Nat):Int)by omega],aD,by rw[cJ,HO.out];rfl,HS.out x 0 HX.out HY.out _ _ aD,oo,(hb.trans (iG.alloc _ _)).own _ _ (lq.alloc _) hg⟩
    case measure=>simp[intOf];omega
  .obtain rfl:k=l:= aD ;have wJ:Hid (iy O=ij (val L-val M)):=by
    show iy O=_;have h:=HV.out;rw[cP (l:=L) (by have:=HL.out;omega),cP (l:=M) (by have:=HM.out;omega)]at h;rw[rJ lq.ok,(Y1 lq.ok HO.out h HLE.out).2]
   go_wp2_with fail;refine(BR OA Oc O _ yQ aD).mono ?_;rintro e w' ⟨A'',c'',rfl,qu,ns⟩;go_wp2;go_ret;rw[<-wJ.out];exact⟨A'',c'',rfl,qu,hb.trans ns⟩
def NK{O:List Nat}{p a b c o:Nat}(ho:O[p]? = some o):
 val (O.set p ((a*b+o+c)%4294967296))+4294967296^(p+1)*((a*b+o+c)/4294967296)=val O+4294967296^p*c+4294967296^p*(a*b):=by
 obtain⟨hp,rfl⟩:=cC.1 ho;have h:=PH (x:=(a*b+O[p]+c)%4294967296) hp;have e:=congrArg (4294967296^p * ·) (ef (a*b+O[p]+c) 4294967296);simp only[bM]at e;rw[bG,bB];omega
def KX{O:List Nat}{p c o:Nat}(ho:O[p]? = some o):
 val (O.set p ((o+c)%4294967296))+4294967296^(p+1)*((o+c)/4294967296)=val O+4294967296^p*c:=by
 have h:=NK (a:=0) (b:=0) (c:=c) ho;simpa using h
def abj{i n k N c:Nat}{O a b:List Nat}(hk:val O+4294967296^k*c=val (a.take (i+1))*val b)(ha:iK a)(hb:iK b)(hi:i<a.length)(hn:b.length=n)(hc:0<c)(hN:a.length+n<N):k<N:=by
 have h1:=mC (ha.take (i+1));rw[cG,dD aD]at h1;have h2:=mC hb;rw[hn]at h2;have h3:val (a.take (i+1))*val b<4294967296^(i+1+n):=by
  rw[bw];exact gY h1 h2
 have h4:4294967296^k*1<=4294967296^k*c:=cM _ hc;have h5:4294967296^k<4294967296^(i+1+n):= aD ;have:=(am5 (aF:1<4294967296)).1 h5;omega
def al1(x y:Nat)(hx:x<4294967296)(hy:y<4294967296):IntKind.u64.wrap ((x:Int)*(y:Int))=((x*y:Nat):Int)/\x*y<=18446744065119617025:=by
 have h:x*y<=4294967295*4294967295:=dA aD aD;refine⟨?_,aD⟩;rw[IntKind.wrap_u64,<-dT];omega
def oj(x:Nat)(h:x<18446744073709551616):IntKind.u64.wrap (x:Int)=x:=by rw[IntKind.wrap_u64];omega
def Fp.iK.JY{L:List Nat}(h:iK L)(k:Nat)(x:Nat):iK (L.set k (x%4294967296)):=h.set k (bC _ aF)
def ajM(A B:Option Addr)(c d:Nat)(L M:List Nat)(w:World)(hs:Sl w A c L)(hr:Sl w B d M)(h1:L.length<=3000)(h2:M.length<=3000):
 Calls prog 287 #[.slice A L.length c,.slice B M.length d] w (sR w (ij (val L*val M))):=by
 obtain⟨l,hl⟩:∃ l,l=L.length:=⟨_,rfl⟩
 obtain⟨m,hm⟩:∃ m,m=M.length:=⟨_,rfl⟩
 rw[<-hl]at h1 ⊢;rw[<-hm]at h2 ⊢;have HL:=anQ hl;have HM:=anQ hm;clear hl hm;have oV:=C5 (l+m+1) aD;rw[show((l+m+1:Nat):Int)=l+m+1 by omega]at oV;have sW:=anQ (Rw.xR w (l+m+1));go_enter func287,ntmps287;go_wp2;go_loopw [6] (λi wr=>∃ (k:Nat) (O:List Nat),k<=l/\i = .int .i64 k/\O.length=l+m+1/\iK O/\val O=val (L.take k)*val M/\Rw wr w.heap.size O/\iG w wr) (λi _=>l-(intOf i).toNat)
 case atStart=>
  exact⟨0,List.replicate (l+m+1) 0,ch _,rfl,aJ,iK.BT _,by simp[zz],sW.out,iG.alloc _ _⟩
 case round=>
  obtain⟨i,O,hi,rfl,hO,lg,lr,hR,hb⟩:=hrel;have HV:=anQ lr;have HO:=anQ hO;clear lr hO;by_cases iO:i<l
  .have Ir:i<L.length:=by have:=HL.out;omega
   obtain⟨x,hx⟩:∃ x,x=L[i]:=⟨_,rfl⟩
   have HX:=anQ hx;have mJ:x<4294967296:=by rw[hx];exact hs.ok.get Ir
   have HXc:=anQ (λw (h:Sl w A c L)=>hx▸h.lL Ir);clear hx;have HST:=anQ (show val (L.take (i+1))=val (L.take i)+4294967296^i*x by rw[HX.out];exact yi L i Ir);clear HX Ir;go_wp2;obtain⟨wo,rfl⟩:∃ wo:World,wo=wr:=⟨_,rfl⟩
   go_loopw [7,8] (λcy k wr=>∃ (j q:Nat) (O:List Nat),j<=m/\k = .int .i64 j/\cy = .int .u64 q/\q<4294967296/\O.length=l+m+1/\iK O/\val O+4294967296^(i+j)*q=val (L.take i)*val M+4294967296^i*(x*val (M.take j))/\Rw wr w.heap.size O/\iG w wr) (λ_ k _=>m-(intOf k).toNat)
   case atStart=>
    exact⟨0,0,O,ch _,rfl,rfl,aF,HO.out,lg,by simp[HV.out],hR,hb⟩
   case round=>
    clear HO HV lg hR;obtain⟨j,q,O,hj,rfl,rfl,hq,hO,lg,lr,hR,hb⟩:=hrel;have HV:=anQ lr;have HO:=anQ hO;clear lr hO;by_cases EG:j<m
    .have It:j<M.length:=by have:=HM.out;omega
     obtain⟨y,hy⟩:∃ y,y=M[j]:=⟨_,rfl⟩
     have ph:y<4294967296:=by rw[hy];exact hr.ok.get It
     obtain⟨ab,ao,e1,_,c1⟩:=HXc.out _ (hs.below hb);obtain⟨bb,bo,e2,_,c2⟩:=(hr.below hb).lL It;have HYS:=anQ (show val (M.take (j+1))=val (M.take j)+4294967296^j*y by rw[hy];exact yi M j It);rw[<-hy]at c2;clear hy It HXc;subst e1 e2;have hp:i+j<O.length:=by have:=HO.out;omega
     have ho:=bD hp;have afl:O[i+j]<4294967296:=lg.get hp;have c3:=hR.cell ho;have c4:=hR.frozen (i+j);have HS:=anQ (NK (a:=x) (b:=y) (c:=q) ho);generalize O[i+j]=o at *
     clear ho hp;have IG:=λv=>lg.JY (i+j) v
     have HR2:=anQ (λv:Nat=>hR.set (i+j) v);have HE2:=anQ (λ(n:Nat) (v:Value)=>(below_drewN hb n).setCell (p:=⟨w.heap.size,i+j,none⟩) (bp _) v);have HOK:=anQ IG;have HNEW:=anQ (show val (L.take i)*val M+4294967296^i*(x*val (M.take (j+1)))=val (L.take i)*val M+4294967296^i*(x*val (M.take j))+4294967296^(i+j)*(x*y)by
      rw[HYS.out,bM x,bM (4294967296^i),bw,dh];congr 2;rw[dt x,bB])
     obtain⟨BC,Ag⟩:=al1 x y mJ ph;generalize x*y=z at *
     have yV:IntKind.u64.wrap ((z:Int)+o)=(z:Int)+o:=by rw[IntKind.wrap_u64];omega
     have tE:IntKind.u64.wrap ((z:Int)+o+q)=(z:Int)+o+q:=by rw[IntKind.wrap_u64];omega
     have uf:=wi (z+o+q) aD;simp only[fj]at uf;have xE:IntKind.i64.wrap ((i:Int)+j)=(i:Int)+j:=i64_in _ aD aD;have uc:(0:Int)<=i+j:= aD ;have UB:((i:Int)+j).toNat=i+j:= aD ;have hi4:(i:Int)+j<l+m+1:= aD ;go_wp2;go_quiet (fail);go_wp2;go_roundw
     case rel=>
      exact⟨j+1,(z+o+q)/4294967296,O.set (i+j) ((z+o+q)%4294967296),aD,by go_num,by go_num,aD,by rw[cS];exact HO.out,HOK.out _,by rw[HNEW.out,<-HV.out];exact HS.out,HR2.out _,HE2.out _ _⟩
     case measure=>simp[intOf];omega
    .obtain rfl:j=m:= aD ;have HV2:=anQ (show val O+4294967296^(i+j)*q=val (L.take (i+1))*val M by
      rw[HST.out,HV.out,show M.take j=M from cP (by rw[HM.out];exact bp _),b8,bB])
     clear HV;go_wp2;obtain⟨wo,rfl⟩:∃ wo:World,wo=wr:=⟨_,rfl⟩
     go_loopw [7,10] (λcy k wr=>∃ (p q:Nat) (O:List Nat),p<=l+j+1/\k = .int .i64 p/\cy = .int .u64 q/\q<4294967296/\O.length=l+j+1/\iK O/\val O+4294967296^p*q=val (L.take (i+1))*val M/\Rw wr w.heap.size O/\iG w wr) (λ_ k _=>l+j+1-(intOf k).toNat)
     case atStart=>
      exact⟨i+j,q,O,aD,by go_num,rfl,hq,HO.out,lg,HV2.out,hR,hb⟩
     case round=>
      clear HO HV2 lg hR hq;obtain⟨p,q,O,hp,rfl,rfl,hq,hO,lg,lr,hR,hb⟩:=hrel;have HV:=anQ lr;have HO:=anQ hO;clear lr hO;by_cases hc:0<q
      .have hpN:p<l+j+1:=abj HV.out hs.ok hr.ok (by have:=HL.out;omega) HM.out.symm hc (by have:=HL.out;omega);have MW:p<O.length:=by have:=HO.out;omega
       have ho:=bD MW;have afl:O[p]<4294967296:=lg.get MW;have c3:=hR.cell ho;have c4:=hR.frozen p;have HS:=anQ (KX (c:=q) ho);generalize O[p]=o at *
       clear ho MW;have HR2:=anQ (λv:Nat=>hR.set p v);have HE2:=anQ (λv:Value=>hb.setCell (p:=⟨w.heap.size,p,none⟩) (bp _) v);have HOK:=anQ (λv=>lg.JY p v);have uf:=wi (o+q) aD;simp only[fj]at uf;have CP:decide ((q:Int)>0)=true:=bq aD;have uj:decide (0<q)=true:=bq hc;go_wp2;go_roundw
       case rel=>
        exact⟨p+1,(o+q)/4294967296,O.set p ((o+q)%4294967296),aD,by go_num,by go_num,aD,by rw[cS];exact HO.out,HOK.out _,by rw[<-HV.out];exact HS.out,HR2.out _,HE2.out _⟩
       case measure=>simp[intOf];omega
      .obtain rfl:q=0:= aD ;go_wp2;go_roundw
       case rel=>
        exact⟨i+1,O,aD,by go_num,HO.out,lg,by rw[<-HV.out];simp,hR,hb⟩
       case measure=>simp[intOf];omega
  .obtain rfl:i=l:= aD ;have HF:=anQ (show iy O=ij (val L*val M)by
    rw[rJ lg,HV.out,show L.take i=L from cP (by rw[HL.out];exact bp _)])
   have yS:=hR.sl lg (by rw[HO.out];omega);obtain⟨n,hn⟩:∃ n,n=O.length:=⟨_,rfl⟩
   have kx:i+m+1=n:=by rw[hn];exact HO.out.symm
   have hT:=anQ (BR _ _ O _ yS (by rw[HO.out];omega));rw[HO.out]at hT;clear hn kx;go_wp2_with fail;refine hT.out.mono ?_;rintro e w' ⟨A'',c'',rfl,qu,ns⟩;go_wp2;go_ret;rw[<-HF.out];exact⟨A'',c'',rfl,qu,hb.trans ns⟩
def FY(s:Bool)(A:Option Addr)(c:Nat)(L:List Nat)(e:Int)(w:World)(hs:Sl w A c L)(hlen:L.length<=3000)(kZ:-1000000<=e)(kF:e<=1000000):
 Calls prog 80 #[.bool s,.slice A L.length c,.int .i64 e] w (tR w (canon s (val L) e)):=by
 by_cases h0:val L=0
 .have om:=anQ (show canon s (val L) e=iQ by unfold canon;rw[bn h0];rfl);have M1:iy L=[]:=by rw[rJ hs.ok,h0,mW]
  have hT:=anQ (λw (h:Sl w A c L)=>BR A c L w h aD);rw[M1]at hT;clear M1 h0;go_enter func80,ntmps80;go_wp2_with fail;refine(hT.out _ (hs.alloc _)).mono ?_;rintro e w' ⟨A',c',rfl,mQ,hb⟩;have bx:=(jq.new w false none 0 0 0).ext hb;have b0:=bx.c0;have b1:=bx.c1;have b2:=bx.c2;have f0:=bx.fr 0;have f1:=bx.fr 1;have f2:=bx.fr 2;go_wp2;rw[om.out];have hz:ij iQ.m=[]:=mW;exact sU rfl rfl rfl (bx.set _ _ _ _ _) (by rw[hz];rfl) (by rw[hz];exact bx.qi (Sl.nil _) _ _ _ _ _) (jq.pW ((iG.alloc _ _).trans hb) (bp _) _ _ _ _ _)
 .have om:=anQ (show canon s (val L) e=⟨s,val L/2^kr (val L),e+kr (val L)⟩by unfold canon;rw[bl h0]);have hT:=anQ (λw (h:Sl w A c L)=>BR A c L w h aD);have ht1:=oF L;unfold mn at ht1;have hv:=oG L;have lg:=hs.ok.iy;generalize iy L=M at *
  rw[<-hv]at h0 om ⊢;clear hv;have hZ:=anQ (λA c w (h:Sl w A c M)=>ajS A c M w h aD h0);have zZ:kr (val M)<=100000:=by have:=D3 lg h0;omega
  have hR:=anQ (λA c w (h:Sl w A c M)=>ajH A c M (kr (val M)) w h aD zZ);have tZ:M.length≠0:=by intro h;rw[dN h]at h0;exact h0 rfl
  generalize val M/2^kr (val M)=q at *
  generalize kr (val M)=t at *
  obtain⟨m,hm⟩:∃ m,m=M.length:=⟨_,rfl⟩
  go_enter func80,ntmps80;go_wp2_with fail;refine(hT.out _ (hs.alloc _)).mono ?_;rintro e' w1 ⟨A1,c1,rfl,qL,jt⟩;go_wp2_with fail;refine(hZ.out _ _ _ qL).mono ?_;rintro e' w2 ⟨rfl,rfl⟩;go_wp2_with fail;refine(hR.out _ _ _ qL).mono ?_;rintro e' w2 ⟨A2,c2,rfl,kK,lS⟩;have hb:=jt.trans lS;have bx:=(jq.new w false none 0 0 0).ext hb;have b0:=bx.c0;have b1:=bx.c1;have b2:=bx.c2;have f0:=bx.fr 0;have f1:=bx.fr 1;have f2:=bx.fr 2;go_wp2;rw[om.out];exact sU rfl rfl rfl (bx.set _ _ _ _ _) rfl (bx.qi kK _ _ _ _ _) (jq.pW ((iG.alloc _ _).trans hb) (bp _) _ _ _ _ _)
def acC(A:Option Addr)(c:Nat)(L:List Nat)(w:World)(hs:Sl w A c L)(h1:L.length<=3000)(h0:val L≠0)(hT:Tb w):
 Calls prog 233 #[.slice A L.length c] w λe w'=>e = .returned (.int .i64 (kr (val L)))/\w=w':=by
 have lg:=hs.ok;have HV:=anQ (λi hi h hx=>abT lg i hi h hx);have H0:=anQ h0;clear h0;go_enter func233,ntmps233;go_wp2;go_loop [3,8] (λn i=>∃ k:Nat,k<=L.length/\i = .int .i64 k/\n = .int .i64 ((32*k:Nat):Int)/\∀ j,(hj:j<k)->L[j]? = some 0) (λ_ i=>L.length-(intOf i).toNat)
 case atStart=>exact⟨0,ch _,rfl,rfl,λj hj=> aD⟩
 case round=>
  obtain⟨k,hk,rfl,rfl,hz⟩:=hrel;have HZ:=anQ hz;clear hz;by_cases iO:k<L.length
  .obtain ⟨ab,ao,rfl,_,c1⟩:=hs.lL iO;have mJ:L[k]<4294967296:=lg.get iO;have HG:=anQ (bD iO);have HC:=anQ (λhx=>HV.out k iO (λj hj=>by have:=HZ.out j hj;rw[bD aD]at this;simpa using this) hx);clear HV;generalize L[k]=x at *
   by_cases hx:x=0
   .have HX:=anQ hx;clear hx;have hb:((x:Int) != 0)=false:=by have:=HX.out;simp;omega
    go_wp2;go_round
    case rel=>exact⟨k+1,aD,by go_num,by go_num,λj hj=>by
     by_cases e:j=k
     .subst e;rw[HG.out,HX.out]
     .exact HZ.out j aD⟩
    case measure=>simp[intOf];omega
   .have hb:((x:Int) != 0)=true:= aR ;have HX:=anQ (HC.out hx);have amw:kr x<=32:=by
     have h1:=FT hx;rcases eE 32 (kr x)with h|h
     .have:=fk (a:=2) aF h;have e:(2:Nat)^32=4294967296:= aF ;omega
     .exact h
    go_wp2_with (go_at_call 274;refine(alT x hx mJ _ hT).mono ?_;rintro e w' ⟨rfl,rfl⟩)
    go_ret;exact⟨oi (by rw[HX.out];simp),rfl⟩
  .exfalso;have:val L=0:=by
    rw[Gj];intro y hy;obtain⟨j,hj,rfl⟩:=am4 hy;have:=HZ.out j aD;rw[bD hj]at this;simpa using this
   exact H0.out this
def Hf(s:Bool)(A:Option Addr)(c:Nat)(L:List Nat)(e:Int)(w:World)(hs:Sl w A c L)(_hlen:L.length<=100000)(nt:(iy L).length<=256)(kZ:-1000000<=e)(kF:e<=1000000)(kA:Tb w):
 Calls prog 170 #[.bool s,.slice A L.length c,.int .i64 e] w (tR w (canon s (val L) e)):=by
 have hT:=anQ (λw (h:Sl w A c L)=>acJ A c L w h);have kK:=hs.tL;have hv:=oG L;have lg:=hs.ok.iy;have Bw:=zu L;generalize iy L=M at *
 rw[<-hv];clear hv;by_cases h0:val M=0
 .have om:=anQ (show canon s (val M) e=iQ by unfold canon;rw[bn h0];rfl);have tZ:Hid (M.length=0):=by
   show M.length=0;rw[Bw.Eh lg,h0,mW];rfl
  obtain⟨m,hm⟩:∃ m,m=M.length:=⟨_,rfl⟩
  rw[<-hm]at hT tZ;clear hm h0;obtain rfl:m=0:=tZ.out;clear tZ;go_enter func170,ntmps170;go_wp2_with fail;refine(hT.out _ (hs.alloc _)).mono ?_;rintro e w' ⟨rfl,rfl⟩;have bx:=jq.new w false none 0 0 0;have b0:=bx.c0;have b1:=bx.c1;have b2:=bx.c2;have f0:=bx.fr 0;have f1:=bx.fr 1;have f2:=bx.fr 2;go_wp2;rw[om.out];have hz:ij iQ.m=[]:=mW;exact sU rfl rfl rfl bx (by rw[hz];rfl) (by rw[hz];exact Sl.nil _) (iG.alloc _ _)
 .have om:=anQ (show canon s (val M) e=⟨s,val M/2^kr (val M),e+kr (val M)⟩by unfold canon;rw[bl h0]);have hZ:=anQ (λA c w (h:Sl w A c M) (ht:Tb w)=>acC A c M w h aD h0 ht);have zZ:kr (val M)<=65536:=by have:=D3 lg h0;omega
  have hR:=anQ (λA c w (h:Sl w A c M)=>WG A c M (kr (val M)) w h nt zZ);have tZ:M.length≠0:=by intro h;rw[dN h]at h0;exact h0 rfl
  have vw:(ij (val M/2^kr (val M))).length<=256:=by
   refine q9 (cK (cE _ _) ?_);exact bT (mC lg) (bI aF nt)
  generalize val M/2^kr (val M)=q at *
  generalize kr (val M)=t at *
  have hK:=anQ (λA c w (h:Sl w A c (ij q))=>K3 A c (ij q) w h aD);have hP:=anQ (λA c w (h:Sl w A c (ij q))=>K2 A c (ij q) w h);obtain⟨Q,hQ⟩:∃ Q,Q=ij q:=⟨_,rfl⟩
  have HQ:=anQ hQ;rw[<-hQ]at hR hK hP vw;clear hQ;go_enter func170,ntmps170;go_wp2_with fail;refine(hT.out _ (hs.alloc _)).mono ?_;rintro e' w1 ⟨rfl,rfl⟩;go_wp2_with fail;refine(hZ.out _ _ _ (kK.alloc _) (kA.alloc _)).mono ?_;rintro e' w2 ⟨rfl,rfl⟩;go_wp2_with fail;refine(hR.out _ _ _ (kK.alloc _)).mono ?_;rintro e' w2 ⟨A2,c2,rfl,afr,lS⟩;go_wp2_with fail;refine(hK.out _ _ _ afr).mono ?_;rintro e' w3 ⟨A3,c3,rfl,CQ,pf⟩;go_wp2_with fail;refine(hP.out _ _ _ CQ).mono ?_;rintro e' w4 ⟨rfl,rfl⟩;have hb:=lS.trans pf;have bx:=(jq.new w false none 0 0 0).ext hb;have b0:=bx.c0;have b1:=bx.c1;have b2:=bx.c2;have f0:=bx.fr 0;have f1:=bx.fr 1;have f2:=bx.fr 2;go_wp2;rw[om.out];rw[HQ.out]at CQ ⊢;exact sU rfl rfl rfl (bx.set _ _ _ _ _) rfl (bx.qi CQ.Ro _ _ _ _ _) (jq.pW ((iG.alloc _ _).trans hb) (bp _) _ _ _ _ _)
def Li(A:Option Addr)(c:Nat)(L:List Nat)(w:World)(hs:Sl w A c L)(hlen:L.length<=100000000):
 Calls prog 185 #[.slice A L.length c] w λe w'=>e = .returned (.int .i64 (iA (val L)))/\w=w':=by
 have H:=anQ (Wz A c L w hs hlen);go_enter func185,ntmps185;go_wp2_with fail;refine H.out.mono ?_;rintro e w' ⟨rfl,rfl⟩;go_wp2;go_ret;exact⟨rfl,rfl⟩
def uy(m:Nat)(e:Int):Bool:=decide (nu ⟨false,m,e⟩)
def Nf(s:Bool)(A:Option Addr)(c:Nat)(L:List Nat)(e:Int)(w:World)(hs:Sl w A c L)(hlen:L.length<=100000000)(kZ:-9223372036854775808<=e)(kF:e<=9223372036854775807):
 Calls prog 104 #[.agg #[.bool s,.slice A L.length c,.int .i64 e]] w λr w'=>r = .returned (.bool (uy (val L) e))/\iG w w':=by
 have H:=anQ (λw (h:Sl w A c L)=>Li A c L w h hlen);have hn:Hid (uy (val L) e=decide (iA (val L)=0\/iA (val L)<=4096 /\ -16384<=e/\e<=16384/\(iA (val L):Int)+e<=16384)):=by
  have h:iA (val L)=0↔val L=0:=by
   constructor
   .intro h;apply b9;intro h0;have:=nj h0;omega
   .intro h;rw[h];rfl
  exact anl.2 (or_congr h.symm Iff.rfl)
 have yG:iA (val L)<=32*L.length:=kV.2 (by rw[<-nF];exact mC hs.ok);generalize iA (val L)=n at *
 generalize uy (val L) e=b at *
 have ae3:n=0\/(0<n/\4096<n)\/(0<n/\n<=4096/\e < -16384)\/(0<n/\n<=4096 /\ -16384<=e/\16384<e)\/(0<n/\n<=4096 /\ -16384<=e/\e<=16384/\16384<(n:Int)+e)\/(0<n/\n<=4096 /\ -16384<=e/\e<=16384/\(n:Int)+e<=16384):= aD ;rcases ae3 with h|⟨h,h1⟩|⟨h,h1,h2⟩|⟨h,h1,h2,h3⟩|⟨h,h1,h2,h3,h4⟩|⟨h,h1,h2,h3,h4⟩
 .subst h;have hb:b=true:=by rw[hn.out];simp
  clear hn;subst hb;go_enter func104,ntmps104;go_wp2_with fail;refine(H.out _ (hs.alloc _)).mono ?_;rintro r w' ⟨rfl,rfl⟩;go_wp2;go_ret;exact⟨rfl,iG.alloc _ _⟩
 .have hb:b=false:=by rw[hn.out];simp;omega
  have rC:((n:Int)==0)=false:= aR ;have oW:decide ((n:Int)<=4096)=false:= aR ;clear hn;subst hb;go_enter func104,ntmps104;go_wp2_with fail;refine(H.out _ (hs.alloc _)).mono ?_;rintro r w' ⟨rfl,rfl⟩;go_wp2;go_ret;exact⟨rfl,iG.alloc _ _⟩
 .have hb:b=false:=by rw[hn.out];simp;omega
  have rC:((n:Int)==0)=false:= aR ;have oW:decide ((n:Int)<=4096)=true:= aR ;have kx:decide (-16384<=e)=false:= aR ;clear hn;subst hb;go_enter func104,ntmps104;go_wp2_with fail;refine(H.out _ (hs.alloc _)).mono ?_;rintro r w' ⟨rfl,rfl⟩;go_wp2;go_ret;exact⟨rfl,iG.alloc _ _⟩
 .have hb:b=false:=by rw[hn.out];simp;omega
  have rC:((n:Int)==0)=false:= aR ;have oW:decide ((n:Int)<=4096)=true:= aR ;have kx:decide (-16384<=e)=true:= aR ;have CM:decide (e<=16384)=false:= aR ;clear hn;subst hb;go_enter func104,ntmps104;go_wp2_with fail;refine(H.out _ (hs.alloc _)).mono ?_;rintro r w' ⟨rfl,rfl⟩;go_wp2;go_ret;exact⟨rfl,iG.alloc _ _⟩
 .have hb:b=false:=by rw[hn.out];simp;omega
  have rC:((n:Int)==0)=false:= aR ;have oW:decide ((n:Int)<=4096)=true:= aR ;have kx:decide (-16384<=e)=true:= aR ;have CM:decide (e<=16384)=true:= aR ;have hn4:decide ((n:Int)+e<=16384)=false:= aR ;clear hn;subst hb;go_enter func104,ntmps104;go_wp2_with fail;refine(H.out _ (hs.alloc _)).mono ?_;rintro r w' ⟨rfl,rfl⟩;go_wp2;go_ret;exact⟨rfl,iG.alloc _ _⟩
 .have hb:b=true:=by rw[hn.out];simp;omega
  have rC:((n:Int)==0)=false:= aR ;have oW:decide ((n:Int)<=4096)=true:= aR ;have kx:decide (-16384<=e)=true:= aR ;have CM:decide (e<=16384)=true:= aR ;have hn4:decide ((n:Int)+e<=16384)=true:= aR ;clear hn;subst hb;go_enter func104,ntmps104;go_wp2_with fail;refine(H.out _ (hs.alloc _)).mono ?_;rintro r w' ⟨rfl,rfl⟩;go_wp2;go_ret;exact⟨rfl,iG.alloc _ _⟩
def oI(s:Bool)(L:List Nat)(e:Int):Prop:=nC L/\L.length<=256/\Dy.iu ⟨s,val L,e⟩
def R0(s:Bool)(e:Int):oI s [] e↔s=false/\e=0:=by
 unfold oI;constructor
 .rintro ⟨_,_,hc,_⟩;rcases hc with⟨_,h1,h2⟩|h
  .exact ⟨h1,h2⟩
  .simp at h
 .rintro ⟨rfl,rfl⟩;exact⟨nC.nil,aJ,qn⟩
def RZ{s:Bool}{L:List Nat}{e:Int}{x y:Nat}(hx:L[0]? = some x)(hy:L[L.length-1]? = some y):
 oI s L e↔L.length<=256/\x%2=1/\y≠0/\uy (val L) e=true:=by
 have UO:val L%2=x%2:=by
  cases L with
  |nil=>simp at hx
  |cons z l=>simp at hx;subst hx;simp only[qj];omega
 have Bw:nC L↔y≠0:=by
  rw[AO];obtain⟨h1,h2⟩:=cC.1 hy;constructor
  .intro h;rw[<-h2];exact h aD 
  .intro h _;rw[h2];exact h
 unfold oI uy;rw[Bw,anm];constructor
 .rintro ⟨h1,h2,hc,hr⟩;have r8:nu ⟨false,val L,e⟩:=hr;refine⟨h2,?_,h1,r8⟩;rcases hc with⟨h,_,_⟩|h
  .exfalso;have:=(Bw.2 h1).zx (by intro h0;subst h0;simp at hx);simp only at h;omega
  .rw [<-UO];exact h
 .rintro ⟨h1,h2,h3,h4⟩;exact⟨h3,h1,.inr (by show val L%2=1;rw[UO];exact h2),h4⟩
def rq{b:Bool}{P:Prop}(h:b=true↔P)(hn:¬P):b=false:=by
 cases b
 .rfl
 .exact absurd (h.1 rfl) hn
def KK{b:Bool}{P:Prop}(h:b=true↔P)(hn:P):b=true:=h.2 hn
def aaM{b v:Bool}{P:Prop}(h:b=true↔P)(hn:P↔v=true):b=v:=by
 cases b<;>cases v<;>simp_all
def Bb(s:Bool)(A:Option Addr)(c:Nat)(L:List Nat)(e:Int)(w:World)(b:Bool)(hs:Sl w A c L)(kZ:-9223372036854775808<=e)(kF:e<=9223372036854775807)(hb:b=true↔oI s L e):
 Calls prog 40 #[.agg #[.bool s,.slice A L.length c,.int .i64 e]] w λr w'=>r = .returned (.bool b)/\iG w w':=by
 have CF:=hs.cap;have zZ:=hs.pS;by_cases hL:L=[]
 .subst hL;rw[R0]at hb;cases s
  .by_cases h:e=0
   .subst h;have:b=true:=by simpa using hb
    clear hb;subst this;go_enter func40,ntmps40;go_wp2;go_ret;exact⟨rfl,iG.alloc _ _⟩
   .have:b=false:=rq hb (by simp[h]);have h':(e==0)=false:= aR ;clear hb;subst this;go_enter func40,ntmps40;go_wp2;go_ret;exact⟨rfl,iG.alloc _ _⟩
  .have:b=false:=rq hb aJ ;clear hb;subst this;go_enter func40,ntmps40;go_wp2;go_ret;exact⟨rfl,iG.alloc _ _⟩
 .have q6:0<L.length:=eZ.2 hL;clear hL;obtain⟨ab,ao,rfl,_,c1⟩:=hs.lL q6;obtain⟨ab',ao',e',_,c2⟩:=hs.lL (i:=L.length-1) aD;cases e';have mJ:=hs.ok.get q6;have ph:=hs.ok.get (aD:L.length-1<L.length);rw[RZ (bD q6) (bD (aD:L.length-1<L.length))]at hb;have c1':w.cell? ⟨ab,ao,none⟩=some (.int .u32 (L[0]:Int)):=c1;clear c1;generalize L[0]=x at *
  generalize L[L.length-1]=y at *
  have HB:=anQ hb;clear hb;have H:=anQ (λw (h:Sl w (some ⟨ab,ao,none⟩) c L) (hl:L.length<=256)=>Nf s _ c L e w h aD kZ kF);obtain⟨n,hn⟩:∃ n,n=L.length:=⟨_,rfl⟩
  rw[<-hn]at q6 c2 H HB CF ⊢;clear hn;generalize uy (val L) e=v at *
  have rC:((n:Int)==0)=false:= aR ;by_cases h1:n<=256
  .have oW:decide ((n:Int)<=256)=true:= aR ;by_cases h2:x%2=1
   .have kx:((x:Int)%2==1)=true:= aR ;by_cases h3:y=0
    .have:b=false:=rq HB.out (by simp[h3]);have CM:((y:Int) != 0)=false:= aR ;clear HB;subst this;go_enter func40,ntmps40;go_wp2;go_ret;exact⟨rfl,iG.alloc _ _⟩
    .have:b=v:=aaM HB.out (by simp[h1,h2,h3]);have CM:((y:Int) != 0)=true:= aR ;clear HB;subst this;go_enter func40,ntmps40;go_wp2_with fail;refine(H.out _ (hs.alloc _) h1).mono ?_;rintro r w' ⟨rfl,ns⟩;go_wp2;go_ret;exact⟨rfl,(iG.alloc _ _).trans ns⟩
   .have:b=false:=rq HB.out (λh=>h2 h.2.1);have kx:((x:Int)%2==1)=false:= aR ;clear HB;subst this;go_enter func40,ntmps40;go_wp2;go_ret;exact⟨rfl,iG.alloc _ _⟩
  .have:b=false:=rq HB.out (λh=>h1 h.1);have oW:decide ((n:Int)<=256)=false:= aR ;clear HB;subst this;go_enter func40,ntmps40;go_wp2;go_ret;exact⟨rfl,iG.alloc _ _⟩
def Nw{n k:Nat}(h:iA n<=32*k):(ij n).length<=k:=q9 (by rw[nF];exact kV.1 h)
def acq(d:Dy):oI d.neg (ij d.m) d.e↔d.iu:=by
 unfold oI;rw[jR];constructor
 .exact λh=>h.2.2
 .intro h;refine⟨yg _,?_,h⟩;rcases h.range with h0|⟨h1,_⟩
  .rw [h0,mW];simp
  .exact Nw aD 
def oI.Eh{s:Bool}{L:List Nat}{e:Int}(h:oI s L e)(hk:iK L):L=ij (val L):=h.1.Eh hk
def oI.len{s:Bool}{L:List Nat}{e:Int}(h:oI s L e):L.length<=256:=h.2.1
def oI.bits{s:Bool}{L:List Nat}{e:Int}(h:oI s L e):iA (val L)<=4096:=by
 rcases h.2.2.range with h0|⟨h1,_⟩
 .simp only at h0;rw[h0];decide
 .exact h1
def oI.exp{s:Bool}{L:List Nat}{e:Int}(h:oI s L e):-16384<=e/\e<=16384:=by
 rcases h.2.2.range with h0|⟨_,h1,h2,_⟩
 .rcases h.2.2.canon with⟨_,_,h3⟩|h3
  .simp only at h3;omega
  .simp only at h0 h3;omega
 .exact ⟨h1,h2⟩
def Lj(s:Bool)(A:Option Addr)(c:Nat)(L:List Nat)(e:Int)(w:World)(hs:Sl w A c L)(hd:oI s L e):
 Calls prog 154 #[.agg #[.bool s,.slice A L.length c,.int .i64 e]] w λr w'=>r = .returned (.int .i64 (Dy.jd ⟨s,val L,e⟩))/\iG w w':=by
 obtain⟨kZ,kF⟩:=hd.exp;have hl:=hd.len;have Il:=hd.bits;have HV:=anQ (λw (h:Sl w A c L)=>Bb s A c L e w true h aD aD (by simp[hd]));have HS:=anQ (λw (h:Sl w A c L)=>Li A c L w h aD);by_cases h0:L=[]
 .subst h0;go_enter func154,ntmps154;go_wp2_with fail;refine(HV.out _ (hs.alloc _)).mono ?_;rintro r w' ⟨rfl,hb⟩;have bx:=(jq.new w s A 0 c e).ext hb;have b0:=bx.c0;have b1:=bx.c1;have b2:=bx.c2;go_wp2;go_ret;exact⟨rfl,(iG.alloc _ _).trans hb⟩
 .have q6:0<L.length:=eZ.2 h0;have sd:val L≠0:=by have:=hd.1.zx h0;omega
  have ht:=anQ (show Dy.jd ⟨s,val L,e⟩=iA (val L)+e by unfold Dy.jd;rw[bl sd]);clear h0 sd;generalize Dy.jd ⟨s,val L,e⟩=t at *
  generalize iA (val L)=q at *
  have hw:IntKind.i64.wrap ((q:Int)+e)=q+e:=i64_in _ aD aD;have rC:((L.length:Int)==0)=false:=bd aD;go_enter func154,ntmps154;go_wp2_with fail;refine(HV.out _ (hs.alloc _)).mono ?_;rintro r w' ⟨rfl,hb⟩;have bx:=(jq.new w s A L.length c e).ext hb;have b0:=bx.c0;have b1:=bx.c1;have b2:=bx.c2;have mQ:=(hs.alloc _).below hb;go_wp2_with fail;go_region_held3 (λw'=>w'.cell? ⟨w.heap.size,1,none⟩=some (.slice A L.length c)/\w'.cell? ⟨w.heap.size,2,none⟩=some (.int .i64 e)) (go_keep)
   (first|(go_at_call 185;refine(HS.out _ ?_).mono ?_;(exact mQ.drew);rintro r w'' ⟨rfl,rfl⟩))
  go_wp2;go_ret;exact⟨oi (by rw[ht.out]),Below.drew ((iG.alloc _ _).trans hb)⟩
def acw(s:Bool)(A:Option Addr)(c:Nat)(L:List Nat)(e:Int)(w:World)(hs:Sl w A c L)(hd:oI s L e):
 Calls prog 266 #[.agg #[.bool s,.slice A L.length c,.int .i64 e]] w λr w'=>r = .returned (.int .i64 (iA (val L)))/\iG w w':=by
 obtain⟨kZ,kF⟩:=hd.exp;have hl:=hd.len;have HV:=anQ (λw (h:Sl w A c L)=>Bb s A c L e w true h aD aD (by simp[hd]));have HS:=anQ (λw (h:Sl w A c L)=>Li A c L w h aD);go_enter func266,ntmps266;go_wp2_with fail;refine(HV.out _ (hs.alloc _)).mono ?_;rintro r w' ⟨rfl,hb⟩;have bx:=(jq.new w s A L.length c e).ext hb;have b0:=bx.c0;have b1:=bx.c1;have b2:=bx.c2;go_wp2_with fail;refine(HS.out _ ((hs.alloc _).below hb)).mono ?_;rintro r w' ⟨rfl,rfl⟩;go_wp2;go_ret;exact⟨rfl,(iG.alloc _ _).trans hb⟩
def Lh(s:Bool)(A:Option Addr)(c:Nat)(L:List Nat)(e:Int)(w:World)(hs:Sl w A c L)(hd:oI s L e):
 Calls prog 76 #[.agg #[.bool s,.slice A L.length c,.int .i64 e]] w λr w'=>r = .returned (.int .i64 (Dy.jh ⟨s,val L,e⟩))/\iG w w':=by
 obtain⟨kZ,kF⟩:=hd.exp;have hl:=hd.len;have HV:=anQ (λw (h:Sl w A c L)=>Bb s A c L e w true h aD aD (by simp[hd]));by_cases h0:L=[]
 .subst h0;go_enter func76,ntmps76;go_wp2_with fail;refine(HV.out _ (hs.alloc _)).mono ?_;rintro r w' ⟨rfl,hb⟩;have bx:=(jq.new w s A 0 c e).ext hb;have b0:=bx.c0;have b1:=bx.c1;have b2:=bx.c2;go_wp2;go_ret;exact⟨rfl,(iG.alloc _ _).trans hb⟩
 .have q6:0<L.length:=eZ.2 h0;have sd:val L≠0:=by have:=hd.1.zx h0;omega
  have ht:=anQ (show Dy.jh ⟨s,val L,e⟩=if s then -1 else 1 by unfold Dy.jh;rw[bl sd]);clear h0 sd;generalize Dy.jh ⟨s,val L,e⟩=t at *
  have rC:((L.length:Int)==0)=false:=bd aD;go_enter func76,ntmps76;go_wp2_with fail;refine(HV.out _ (hs.alloc _)).mono ?_;rintro r w' ⟨rfl,hb⟩;have bx:=(jq.new w s A L.length c e).ext hb;have b0:=bx.c0;have b1:=bx.c1;have b2:=bx.c2;cases s
  .go_wp2;go_ret;exact⟨oi (by rw[ht.out];rfl),(iG.alloc _ _).trans hb⟩
  .go_wp2;go_ret;exact⟨oi (by rw[ht.out];rfl),(iG.alloc _ _).trans hb⟩
def adw(e:Int)(w:World)(b:Bool)(hb:b=true↔(-32768<=e/\e<=32768)):
 Calls prog 168 #[.int .i64 e] w λr w'=>r = .returned (.bool b)/\w=w':=by
 by_cases h1:-32768<=e
 .have d1:decide (-32768<=e)=true:=by simpa using h1
  by_cases h2:e<=32768
  .have d2:decide (e<=32768)=true:=by simpa using h2
   have:=KK hb ⟨h1,h2⟩;clear hb;subst this;go_enter func168,ntmps168;go_wp2;go_ret;exact⟨rfl,rfl⟩
  .have d2:decide (e<=32768)=false:=by simpa using h2
   have:=rq hb (λh=>h2 h.2);clear hb;subst this;go_enter func168,ntmps168;go_wp2;go_ret;exact⟨rfl,rfl⟩
 .have d1:decide (-32768<=e)=false:=by simpa using h1
  have:=rq hb (λh=>h1 h.1);clear hb;subst this;go_enter func168,ntmps168;go_wp2;go_ret;exact⟨rfl,rfl⟩
def Rm(d:Dy)(A:Option Addr)(c:Nat)(w:World)(hs:Sl w A c (ij d.m))(hl:(ij d.m).length<=100000000)(kZ:-10000000<=d.e)(kF:d.e<=10000000)(hd:nu d):
 Calls prog 169 #[.agg #[.bool d.neg,.slice A (ij d.m).length c,.int .i64 d.e]] w (tf w d 0):=by
 obtain⟨s,m,e⟩:=d;simp only at *
 have hr:uy m e=true:=by unfold uy;exact bq hd
 have HV:=anQ (λw (h:Sl w A c (ij m))=>Nf s A c (ij m) e w h hl aD aD);rw[jR,hr]at HV;clear hr hd;go_enter func169,ntmps169;go_wp2_with fail;refine(HV.out _ ((hs.alloc _).alloc _)).mono ?_;rintro r w' ⟨rfl,hb⟩;have bx:=((jq.new w s A (ij m).length c e).alloc (.cells #[.bool false,.slice none 0 0,.int .i64 0] 28)).ext hb;have by_:=(jq.new (w.alloc (.cells #[.bool s,.slice A (ij m).length c,.int .i64 e] 28)) false none 0 0 0).ext hb;have b0:=bx.c0;have b1:=bx.c1;have b2:=bx.c2;have bz:(w.alloc (.cells #[.bool s,.slice A (ij m).length c,.int .i64 e] 28)).heap.size=w.heap.size+1:= aJ ;rw[bz]at by_;have c0:=by_.c0;have c1:=by_.c1;have c2:=by_.c2;have f0:=by_.fr 0;have f1:=by_.fr 1;have f2:=by_.fr 2;have mQ:=((hs.alloc (.cells #[.bool s,.slice A (ij m).length c,.int .i64 e] 28)).alloc (.cells #[.bool false,.slice none 0 0,.int .i64 0] 28)).below hb;have ns:iG w w':=((iG.alloc _ _).trans (iG.alloc _ _)).trans hb;clear bz;go_wp2;exact uZ rfl rfl rfl rfl (by_.set _ _ _ _ _) rfl (by_.qi mQ _ _ _ _ _) (jq.pW ns aD _ _ _ _ _)
def abF(d:Dy)(A:Option Addr)(c:Nat)(w:World)(hs:Sl w A c (ij d.m))(hl:(ij d.m).length<=100000000)(kZ:-10000000<=d.e)(kF:d.e<=10000000)(hd:¬nu d):
 Calls prog 169 #[.agg #[.bool d.neg,.slice A (ij d.m).length c,.int .i64 d.e]] w (tf w iQ 9):=by
 obtain⟨s,m,e⟩:=d;simp only at *
 have hr:uy m e=false:=by unfold uy;exact bt hd
 have HV:=anQ (λw (h:Sl w A c (ij m))=>Nf s A c (ij m) e w h hl aD aD);rw[jR,hr]at HV;clear hr hd;go_enter func169,ntmps169;go_wp2_with fail;refine(HV.out _ ((hs.alloc _).alloc _)).mono ?_;rintro r w' ⟨rfl,hb⟩;have by_:=(jq.new (w.alloc (.cells #[.bool s,.slice A (ij m).length c,.int .i64 e] 28)) false none 0 0 0).ext hb;have bz:(w.alloc (.cells #[.bool s,.slice A (ij m).length c,.int .i64 e] 28)).heap.size=w.heap.size+1:= aJ ;rw[bz]at by_;have c0:=by_.c0;have c1:=by_.c1;have c2:=by_.c2;have f0:=by_.fr 0;have f1:=by_.fr 1;have f2:=by_.fr 2;have ns:iG w w':=((iG.alloc _ _).trans (iG.alloc _ _)).trans hb;have hz:ij iQ.m=[]:=mW;have HZ:=anQ hz;clear bz hz;go_wp2;exact uZ rfl rfl rfl rfl (by_.set _ _ _ _ _) (by rw[HZ.out];rfl) (by rw[HZ.out];exact by_.qi (Sl.nil _) _ _ _ _ _) (jq.pW ns aD _ _ _ _ _)
def agM(s:Bool)(A:Option Addr)(c:Nat)(L:List Nat)(e:Int)(w:World)(hs:Sl w A c L)(hlen:L.length<=256)(kZ:-32768<=e)(kF:e<=32768)(kA:Tb w)(hd:nu (canon s (val L) e)):
 Calls prog 325 #[.bool s,.slice A L.length c,.int .i64 e] w (tf w (canon s (val L) e) 0):=by
 have wO:decide (256<(L.length:Int))=false:=bt aD;have HE:=anQ (λw=>adw e w true (by simp[kZ,kF]));have HC:=anQ (λw (h:Sl w A c L) (ht:Tb w)=>Hf s A c L e w h aD (by have:=oF L;unfold mn at this;omega) aD aD ht);have jt:(ij (canon s (val L) e).m).length<=100000000:=by
  unfold canon;split
  .simp [mW]
  .refine bJ (q9 (k:=256) (cK (cE _ _) ?_)) aF ;exact bT (mC hs.ok) (bI aF hlen)
 have lS:-10000000<=(canon s (val L) e).e/\(canon s (val L) e).e<=10000000:=by
  unfold canon;split
  .simp
  .rename_i h0;have:=D3 hs.ok h0;simp only;omega
 obtain⟨lS,pf⟩:=lS;have HK:=anQ (λA c w (h:Sl w A c (ij (canon s (val L) e).m))=>Rm _ A c w h jt lS pf hd);generalize canon s (val L) e=d at *
 clear hd jt lS pf;go_enter func325,ntmps325;go_wp2_with fail;refine(HE.out _).mono ?_;rintro r w' ⟨rfl,rfl⟩;go_wp2_with fail;refine(HC.out _ (hs.alloc _) (kA.alloc _)).mono ?_;rintro r w1 ⟨A1,c1,rfl,qL,jt⟩;go_wp2_with fail;refine(HK.out _ _ _ qL).mono ?_;rintro r w2 ⟨A2,c2,rfl,kK,lS⟩;have hb:=jt.trans lS;have bx:=(jq.new w false none 0 0 0).ext hb;have b0:=bx.c0;have b1:=bx.c1;have b2:=bx.c2;have f0:=bx.fr 0;have f1:=bx.fr 1;have f2:=bx.fr 2;go_wp2;exact uZ rfl rfl rfl rfl (bx.set _ _ _ _ _) rfl (bx.qi kK _ _ _ _ _) (jq.pW ((iG.alloc _ _).trans hb) (bp _) _ _ _ _ _)
def alV(x:Nat)(hx:x<4294967296):bits BinOp.and IntKind.u32 (x:Int) 1=((x%2:Nat):Int):=by
 rw[show(1:Int)=((1:Nat):Int)from rfl,bits_and_u32_nat _ _ hx aF,gX]
def afE{m:Nat}(h0:m≠0)(e:Int):uy m e=true↔(iA m<=4096 /\ -16384<=e/\e<=16384/\(iA m:Int)+e<=16384):=by
 have h:uy m e=true↔nu ⟨false,m,e⟩:=anm;rw[h];constructor
 .rintro (h|h)
  .exact absurd h h0
  .exact h
 .exact λh=>.inr h
def JK(s:Bool)(A:Option Addr)(c:Nat)(L:List Nat)(e:Int)(w:World)(b:Bool)(hs:Sl w A c L)(kZ:-9223372036854775808<=e)(kF:e<=9223372036854775807)(hb:b=true↔oI s L e):
 Calls prog 28 #[.agg #[.bool s,.slice A L.length c,.int .i64 e]] w λr w'=>r = .returned (.bool b)/\iG w w':=by
 have CF:=hs.cap;have zZ:=hs.pS;by_cases hL:L=[]
 .subst hL;rw[R0]at hb;cases s
  .by_cases h:e=0
   .subst h;have:b=true:=by simpa using hb
    clear hb;subst this;go_enter func28,ntmps28;go_wp2;go_ret;exact⟨rfl,iG.alloc _ _⟩
   .have:b=false:=rq hb (by simp[h]);have h':(e==0)=false:= aR ;clear hb;subst this;go_enter func28,ntmps28;go_wp2;go_ret;exact⟨rfl,iG.alloc _ _⟩
  .have:b=false:=rq hb aJ ;clear hb;subst this;go_enter func28,ntmps28;go_wp2;go_ret;exact⟨rfl,iG.alloc _ _⟩
 .have q6:0<L.length:=eZ.2 hL;obtain⟨ab,ao,rfl,_,c1⟩:=hs.lL q6;obtain⟨ab',ao',e',_,c2⟩:=hs.lL (i:=L.length-1) aD;cases e';have mJ:=hs.ok.get q6;have ph:=hs.ok.get (aD:L.length-1<L.length);rw[RZ (bD q6) (bD (aD:L.length-1<L.length))]at hb;have c1':w.cell? ⟨ab,ao,none⟩=some (.int .u32 (L[0]:Int)):=c1;have Ii:=anQ (show L[L.length-1]≠0->nC L from λh=>(AO L).2 (λ_=>h));have wE:=anQ (show L[L.length-1]≠0->val L≠0 from λh=>by have:=((AO L).2 (λ_=>h)).zx hL;omega);clear c1 hL;generalize L[0]=x at *
  generalize L[L.length-1]=y at *
  have HB:=anQ hb;clear hb;have H:=anQ (λw (h:Sl w (some ⟨ab,ao,none⟩) c L) (hl:L.length<=256) (ht:nC L)=>X7 _ c L w h ht aD);have hr:Hid (val L≠0->(uy (val L) e=true↔(iA (val L)<=4096 /\ -16384<=e/\e<=16384/\(iA (val L):Int)+e<=16384))):=λh0=>by
   exact afE h0 e
  obtain⟨n,hn⟩:∃ n,n=L.length:=⟨_,rfl⟩
  rw[<-hn]at q6 c2 H HB CF ⊢;have HN:=anQ hn;clear hn;have rC:((n:Int)==0)=false:= aR ;by_cases h1:n<=256
  .have oW:decide (256<(n:Int))=false:=bt aD ;by_cases h3:y=0
   .have:b=false:=rq HB.out (by simp[h3]);have CM:((y:Int)==0)=true:= aR ;clear HB hr;subst this;go_enter func28,ntmps28;go_wp2;go_ret;exact⟨rfl,iG.alloc _ _⟩
   .have CM:((y:Int)==0)=false:=bd aD ;have hand:=alV x mJ;by_cases h2:x%2=1
    .have kx:(bits BinOp.and IntKind.u32 (x:Int) 1==0)=false:=by rw[hand,h2];rfl
     clear hand;have h0:=wE.out h3;have Bw:=Ii.out h3;have yG:iA (val L)<=32*n:=kV.2 (by rw[<-nF,HN.out];exact mC hs.ok);have HB2:Hid (b=true↔(iA (val L)<=4096 /\ -16384<=e/\e<=16384/\(iA (val L):Int)+e<=16384)):=by
      show b=true↔_;rw[HB.out,hr.out h0];simp[h1,h2,h3]
     have H2:=anQ (λw h=>H.out w h h1 Bw);clear HB hr h0 Bw Ii wE H;generalize iA (val L)=q at *
     by_cases h4:-16384<=e
     .have d4:decide (e < -16384)=false:=bt aD ;by_cases h5:e<=16384
      .have d5:decide (16384<e)=false:=bt aD ;by_cases h6:q<=4096
       .have d6:decide ((q:Int)<=4096)=true:=bq aD ;by_cases h7:(q:Int)+e<=16384
        .have d7:decide ((q:Int)+e<=16384)=true:=bq h7;have:=KK HB2.out ⟨h6,h4,h5,h7⟩;clear HB2;subst this;go_enter func28,ntmps28;go_wp2_with fail;refine(H2.out _ (hs.alloc _)).mono ?_;rintro r w' ⟨rfl,rfl⟩;go_wp2;go_ret;exact⟨rfl,iG.alloc _ _⟩
        .have d7:decide ((q:Int)+e<=16384)=false:=bt h7;have:=rq HB2.out (λh=>h7 h.2.2.2);clear HB2;subst this;go_enter func28,ntmps28;go_wp2_with fail;refine(H2.out _ (hs.alloc _)).mono ?_;rintro r w' ⟨rfl,rfl⟩;go_wp2;go_ret;exact⟨rfl,iG.alloc _ _⟩
       .have d6:decide ((q:Int)<=4096)=false:=bt aD ;have:=rq HB2.out (λh=>h6 h.1);clear HB2;subst this;go_enter func28,ntmps28;go_wp2_with fail;refine(H2.out _ (hs.alloc _)).mono ?_;rintro r w' ⟨rfl,rfl⟩;go_wp2;go_ret;exact⟨rfl,iG.alloc _ _⟩
      .have d5:decide (16384<e)=true:=bq aD ;have:=rq HB2.out (λh=>h5 h.2.2.1);clear HB2;subst this;go_enter func28,ntmps28;go_wp2;go_ret;exact⟨rfl,iG.alloc _ _⟩
     .have d4:decide (e < -16384)=true:=bq aD ;have:=rq HB2.out (λh=>h4 h.2.1);clear HB2;subst this;go_enter func28,ntmps28;go_wp2;go_ret;exact⟨rfl,iG.alloc _ _⟩
    .have kx:(bits BinOp.and IntKind.u32 (x:Int) 1==0)=true:=by rw[hand,(aD:x%2=0)];rfl
     have:b=false:=rq HB.out (λh=>h2 h.2.1);clear HB hand hr;subst this;go_enter func28,ntmps28;go_wp2;go_ret;exact⟨rfl,iG.alloc _ _⟩
  .have:b=false:=rq HB.out (λh=>h1 h.1);have oW:decide (256<(n:Int))=true:=bq aD;clear HB hr;subst this;go_enter func28,ntmps28;go_wp2;go_ret;exact⟨rfl,iG.alloc _ _⟩
def ajv(e:Int)(w:World)(b:Bool)(hb:b=true↔(-32768<=e/\e<=32768)):
 Calls prog 78 #[.int .i64 e] w λr w'=>r = .returned (.bool b)/\w=w':=by
 by_cases h1:-32768<=e
 .have d1:decide (-32768<=e)=true:=by simpa using h1
  by_cases h2:e<=32768
  .have d2:decide (e<=32768)=true:=by simpa using h2
   have:=KK hb ⟨h1,h2⟩;clear hb;subst this;go_enter func78,ntmps78;go_wp2;go_ret;exact⟨rfl,rfl⟩
  .have d2:decide (e<=32768)=false:=by simpa using h2
   have:=rq hb (λh=>h2 h.2);clear hb;subst this;go_enter func78,ntmps78;go_wp2;go_ret;exact⟨rfl,rfl⟩
 .have d1:decide (-32768<=e)=false:=by simpa using h1
  have:=rq hb (λh=>h1 h.1);clear hb;subst this;go_enter func78,ntmps78;go_wp2;go_ret;exact⟨rfl,rfl⟩
def ajt(d:Dy)(A:Option Addr)(c:Nat)(w:World)(hs:Sl w A c (ij d.m))(hl:(ij d.m).length<=100000000)(kZ:-10000000<=d.e)(kF:d.e<=10000000)(hd:d.iu):
 Calls prog 79 #[.agg #[.bool d.neg,.slice A (ij d.m).length c,.int .i64 d.e]] w (tf w d 0):=by
 obtain⟨s,m,e⟩:=d;simp only at *
 have HV:=anQ (λw (h:Sl w A c (ij m))=>JK s A c (ij m) e w true h aD aD (iff_of_true rfl ((acq ⟨s,m,e⟩).2 hd)));clear hd;go_enter func79,ntmps79;go_wp2_with fail;refine(HV.out _ ((hs.alloc _).alloc _)).mono ?_;rintro r w' ⟨rfl,hb⟩;have bx:=((jq.new w s A (ij m).length c e).alloc (.cells #[.bool false,.slice none 0 0,.int .i64 0] 28)).ext hb;have by_:=(jq.new (w.alloc (.cells #[.bool s,.slice A (ij m).length c,.int .i64 e] 28)) false none 0 0 0).ext hb;have b0:=bx.c0;have b1:=bx.c1;have b2:=bx.c2;have bz:(w.alloc (.cells #[.bool s,.slice A (ij m).length c,.int .i64 e] 28)).heap.size=w.heap.size+1:= aJ ;rw[bz]at by_;have c0:=by_.c0;have c1:=by_.c1;have c2:=by_.c2;have f0:=by_.fr 0;have f1:=by_.fr 1;have f2:=by_.fr 2;have mQ:=((hs.alloc (.cells #[.bool s,.slice A (ij m).length c,.int .i64 e] 28)).alloc (.cells #[.bool false,.slice none 0 0,.int .i64 0] 28)).below hb;have ns:iG w w':=((iG.alloc _ _).trans (iG.alloc _ _)).trans hb;clear bz;go_wp2;exact uZ rfl rfl rfl rfl (by_.set _ _ _ _ _) rfl (by_.qi mQ _ _ _ _ _) (jq.pW ns aD _ _ _ _ _)
def ajK(s:Bool)(A:Option Addr)(c:Nat)(L:List Nat)(e:Int)(w:World)(hs:Sl w A c L)(ht:nC L):
 Calls prog 192 #[.agg #[.bool s,.slice A L.length c,.int .i64 e]] w λr w'=>r = .returned (.int .i64 (Dy.jh ⟨s,val L,e⟩))/\iG w w':=by
 have hl:=hs.len;by_cases h0:L=[]
 .subst h0;go_enter func192,ntmps192;go_wp2;go_ret;exact⟨rfl,iG.alloc _ _⟩
 .have q6:0<L.length:=eZ.2 h0;have sd:val L≠0:=by have:=ht.zx h0;omega
  have ht:=anQ (show Dy.jh ⟨s,val L,e⟩=if s then -1 else 1 by unfold Dy.jh;rw[bl sd]);clear h0 sd;generalize Dy.jh ⟨s,val L,e⟩=t at *
  have rC:((L.length:Int)==0)=false:=bd aD;cases s
  .go_enter func192,ntmps192;go_wp2;go_ret;exact⟨oi (by rw[ht.out];rfl),iG.alloc _ _⟩
  .go_enter func192,ntmps192;go_wp2;go_ret;exact⟨oi (by rw[ht.out];rfl),iG.alloc _ _⟩
def ajN(s:Bool)(A:Option Addr)(c:Nat)(L:List Nat)(e:Int)(w:World)(hs:Sl w A c L)(ht:nC L)(hl:L.length<=100000)(kZ:-1000000<=e)(kF:e<=1000000):
 Calls prog 197 #[.agg #[.bool s,.slice A L.length c,.int .i64 e]] w λr w'=>r = .returned (.int .i64 (Dy.jd ⟨s,val L,e⟩))/\iG w w':=by
 have HS:=anQ (λw (h:Sl w A c L)=>X7 A c L w h ht aD);have yG:iA (val L)<=32*L.length:=kV.2 (by rw[<-nF];exact mC hs.ok);by_cases h0:L=[]
 .subst h0;go_enter func197,ntmps197;go_wp2;go_ret;exact⟨rfl,iG.alloc _ _⟩
 .have q6:0<L.length:=eZ.2 h0;have sd:val L≠0:=by have:=ht.zx h0;omega
  have ht:=anQ (show Dy.jd ⟨s,val L,e⟩=iA (val L)+e by unfold Dy.jd;rw[bl sd]);clear h0 sd;generalize Dy.jd ⟨s,val L,e⟩=t at *
  generalize iA (val L)=q at *
  have hw:IntKind.i64.wrap ((q:Int)+e)=q+e:=i64_in _ aD aD;have rC:((L.length:Int)==0)=false:=bd aD;have mQ:=hs.alloc (.cells #[.bool s,.slice A L.length c,.int .i64 e] 28);go_enter func197,ntmps197;go_wp2_with fail;go_region_held3 (λw'=>w'.cell? ⟨w.heap.size,1,none⟩=some (.slice A L.length c)/\w'.cell? ⟨w.heap.size,2,none⟩=some (.int .i64 e)) (go_keep)
   (first|(go_at_call 81;refine(HS.out _ ?_).mono ?_;(exact mQ.drew);rintro r w'' ⟨rfl,rfl⟩))
  go_wp2;go_ret;exact⟨oi (by rw[ht.out]),Below.drew (iG.alloc _ _)⟩
def ajB(s:Bool)(A:Option Addr)(c:Nat)(L:List Nat)(e:Int)(w:World)(hs:Sl w A c L)(ht:nC L):
 Calls prog 117 #[.agg #[.bool s,.slice A L.length c,.int .i64 e]] w (tR w (jf ⟨s,val L,e⟩)):=by
 have hl:=hs.len;have HL:=anQ (ht.Eh hs.ok);by_cases h0:L=[]
 .subst h0;have HZ:=anQ mW;cases s
  .go_enter func117,ntmps117;go_wp2;exact sU (d:=jf ⟨false,val [],e⟩) rfl rfl rfl (jq.pj aJ _ _ _ _ _) (by show _=(ij 0).length;rw[HZ.out];rfl) (by show Sl _ _ _ (ij 0);rw[HZ.out];exact(hs.alloc _).alloc _) ((iG.alloc _ _).trans (iG.alloc _ _))
  .go_enter func117,ntmps117;go_wp2;exact sU (d:=jf ⟨true,val [],e⟩) rfl rfl rfl (jq.pj aJ _ _ _ _ _) (by show _=(ij 0).length;rw[HZ.out];rfl) (by show Sl _ _ _ (ij 0);rw[HZ.out];exact(hs.alloc _).alloc _) ((iG.alloc _ _).trans (iG.alloc _ _))
 .have q6:0<L.length:=eZ.2 h0;have sd:val L≠0:=by have:=ht.zx h0;omega
  have hd:=anQ (show jf ⟨s,val L,e⟩=⟨!s,val L,e⟩by unfold jf;simp[sd]);clear h0 sd ht;rw[hd.out];cases s
  .go_enter func117,ntmps117;go_wp2;exact sU (d:=⟨!false,val L,e⟩) rfl rfl rfl (jq.pj aJ _ _ _ _ _) (by show _=(ij (val L)).length;rw[<-HL.out]) (by show Sl _ _ _ (ij (val L));rw[<-HL.out];exact(hs.alloc _).alloc _) ((iG.alloc _ _).trans (iG.alloc _ _))
  .go_enter func117,ntmps117;go_wp2;exact sU (d:=⟨!true,val L,e⟩) rfl rfl rfl (jq.pj aJ _ _ _ _ _) (by show _=(ij (val L)).length;rw[<-HL.out]) (by show Sl _ _ _ (ij (val L));rw[<-HL.out];exact(hs.alloc _).alloc _) ((iG.alloc _ _).trans (iG.alloc _ _))
def Sl.Kb(w:World)(g:Nat)(hg:w.heap.size=g)(y z:Int)(p q:Nat)(e:y=(p:Int))(e':z=(q:Int))(hp:p<4294967296)(hq:q<4294967296):
 Sl (w.alloc (.cells #[.int .u32 y,.int .u32 z] 72)) (some ⟨g,0,none⟩) 2 [p,q]:=by
 subst e e' hg;refine⟨bp _,aF,iK.cons hp (iK.cons hq iK.nil),(λh=>by cases h),λi y hy=>?_⟩;obtain⟨h1,h2⟩:=cC.1 hy;simp at h1;refine⟨_,_,rfl,aJ,?_⟩;rw[b6,World.cell?_alloc_at _ _ _ _ rfl];rcases i with _|_|i
 .simp at h2;subst h2;rfl
 .simp at h2;subst h2;rfl
 .omega
def ajx(n:Nat)(w:World)(hn:n<4294967296):
 Calls prog 27 #[.int .i64 n] w (tR w (canon false n 0)):=by
 have hm:=wi n aD;have vv:(n:Int)%4294967296=n:= aD ;rw[vv]at hm;have hd:(n:Int)/4294967296=0:= aD ;have iO:¬(n:Int)<0:= aD ;have Mw:decide ((n:Int)<0)=false:=bt iO;have hu:IntKind.u64.wrap (n:Int)=n:=by rw[IntKind.wrap_u64];omega
 have HC:=anQ (λ(A:Option Addr) c w (h:Sl w A c [n,0])=>FY false A c [n,0] 0 w h aJ aF aF);have hv:val [n,0]=n:= aJ ;rw[hv]at HC;clear hv;generalize canon false n 0=d at *
 go_enter func27,ntmps27;go_wp2_with fail;refine(HC.out _ _ _ (Sl.Kb _ _ aJ _ _ n 0 rfl rfl hn aF)).mono ?_;rintro r w1 ⟨A1,c1,rfl,qL,jt⟩;have jS:iG (w.alloc (.cells #[.bool false,.slice none 0 0,.int .i64 0] 28)) w1:=(iG.alloc _ _).trans jt;have bx:=(jq.new w false none 0 0 0).ext jS;have b0:=bx.c0;have b1:=bx.c1;have b2:=bx.c2;have f0:=bx.fr 0;have f1:=bx.fr 1;have f2:=bx.fr 2;go_wp2;exact sU rfl rfl rfl (bx.set _ _ _ _ _) rfl (bx.qi qL _ _ _ _ _) (jq.pW ((iG.alloc _ _).trans jS) (bp _) _ _ _ _ _)
def Ds{w:World}{g g' i:Nat}{v a b c:Value}(h:w.cell? ⟨g,i,none⟩=some v)(kq:g'≠g):
 (((w.setCell ⟨g',0,none⟩ a).setCell ⟨g',1,none⟩ b).setCell ⟨g',2,none⟩ c).cell? ⟨g,i,none⟩=some v:=by
 rw[World.cell?_setCell_other _ _ _ _ aM,World.cell?_setCell_other _ _ _ _ aM,World.cell?_setCell_other _ _ _ _ aM];exact h
end Go.Proofs.YtbhhompalmdaiaaGreatDoor
namespace Go.Proofs.YtbhhompalmdaiaaGreatDoor.Fp
def Cp(s:Bool)(e:Int):canon s 0 e=iQ:=by unfold canon;rw[bn rfl];rfl
def GQ(s:Bool)(x:Nat)(k:Int):lY (if s then -(x:Int)else(x:Int)) k=canon s x k:=by
 unfold lY;cases s
 .have h:decide ((x:Int)<0)=false:=bt aD ;simp only[bZ,bF];rw[h,dj]
 .by_cases h:x=0
  .subst h;simp[Cp]
  .have h:decide (-(x:Int)<0)=true:=bq aD ;simp only[bN];rw[h,fK,dj]
def Y6{s:Bool}{m n:Nat}{e f k:Int}(hm:m≠0)(hn:n≠0)(hk:min e f=k):
 iJ ⟨s,m,e⟩ ⟨s,n,f⟩=canon s (m*2^(e-k).toNat+n*2^(f-k).toNat) k:=by
 unfold iJ;rw[bl hm,bl hn];simp only[hk];rw[<-GQ];unfold Dy.num Dy.j8;cases s
 .simp
 .simp;congr 1;omega
def Y4{s t:Bool}{m n:Nat}{e f k:Int}(hm:m≠0)(hn:n≠0)(hk:min e f=k)(hs:s≠t)(qW:n*2^(f-k).toNat<=m*2^(e-k).toNat):
 iJ ⟨s,m,e⟩ ⟨t,n,f⟩=canon s (m*2^(e-k).toNat-n*2^(f-k).toNat) k:=by
 unfold iJ;rw[bl hm,bl hn];simp only[hk];rw[<-GQ];unfold Dy.num Dy.j8;simp only;generalize m*2^(e-k).toNat=x at *
 generalize n*2^(f-k).toNat=y at *
 congr 1;cases s<;>cases t<;>simp at hs ⊢ <;> omega
def Y5{s t:Bool}{m n:Nat}{e f k:Int}(hm:m≠0)(hn:n≠0)(hk:min e f=k)(hs:s≠t)(iO:m*2^(e-k).toNat<n*2^(f-k).toNat):
 iJ ⟨s,m,e⟩ ⟨t,n,f⟩=canon t (n*2^(f-k).toNat-m*2^(e-k).toNat) k:=by
 unfold iJ;rw[bl hm,bl hn];simp only[hk];rw[<-GQ];unfold Dy.num Dy.j8;simp only;generalize m*2^(e-k).toNat=x at *
 generalize n*2^(f-k).toNat=y at *
 congr 1;cases s<;>cases t<;>simp at hs ⊢ <;> omega
def agz{L:List Nat}(h:iK L)(n:Nat):(ij (val L*2^n)).length<=L.length+n/32+1:=by
 refine q9 ?_;have h1:=mC h;rw[nF]at h1 ⊢;have h2:val L*2^n<2^(32*L.length)*2^n:=dg h1 (bA aF);rw[<-bw]at h2;exact bT h2 (bI aF aD)
def VT{a b k:Nat}(ha:(ij a).length<=k)(hb:(ij b).length<=k):(ij (a+b)).length<=k+1:=by
 refine q9 ?_;have h1:=uB ha;have h2:=uB hb;rw[bG];omega
def vG{a b:Nat}(h:a<=b):(ij a).length<=(ij b).length:=
 q9 (cK h (uB (bp _)))
end Go.Proofs.YtbhhompalmdaiaaGreatDoor.Fp
namespace Go.Proofs.YtbhhompalmdaiaaGreatDoor
open Go.RowKit Fp
def mZ(a b:Dy):Dy:=canon (a.neg != b.neg) (a.m*b.m) (a.e+b.e)
def agy{a b k l:Nat}(ha:(ij a).length<=k)(hb:(ij b).length<=l):(ij (a*b)).length<=k+l:=by
 have h1:=uB ha;have h2:=uB hb;refine q9 ?_;rw[bw];exact gY h1 h2
def Nx{L:List Nat}{k:Nat}(h:iK L)(hl:L.length<=k):(ij (val L)).length<=k:=
 q9 (bT (mC h) (bI aF hl))
def ajE(s : Bool)(A : Option Addr)(c : Nat)(L : List Nat)(e : Int)(t : Bool)(B : Option Addr)(d : Nat)(M : List Nat)(f : Int)(w : World)
    (hs : Sl w A c L) (hr : Sl w B d M) (h1 : L.length<=1000) (h2 : M.length<=1000) (e1 : -200000<=e) (e2 : e<=200000) (f1 : -200000<=f) (f2 : f<=200000):
    Calls prog 245 #[.agg #[.bool s,.slice A L.length c,.int .i64 e],.agg #[.bool t,.slice B M.length d,.int .i64 f]] w (tR w (mZ ⟨s,val L,e⟩ ⟨t,val M,f⟩)) := by
  have hE : iG w (((w.alloc (.cells #[.bool s,.slice A L.length c,.int .i64 e] 28)).alloc (.cells #[.bool t,.slice B M.length d,.int .i64 f] 28)).alloc (.cells #[.bool false,.slice none 0 0,.int .i64 0] 28)) := ((iG.alloc _ _).trans (iG.alloc _ _)).trans (iG.alloc _ _);have hw : IntKind.i64.wrap (e+f)=e+f := i64_in _ aD aD;have kX := (((jq.new w s A L.length c e).alloc (.cells #[.bool t,.slice B M.length d,.int .i64 f] 28)).alloc (.cells #[.bool false,.slice none 0 0,.int .i64 0] 28)).drew;have lf := ((jq.pj (W := w.alloc (.cells #[.bool s,.slice A L.length c,.int .i64 e] 28)) (g := w.heap.size+1) aJ t B M.length d f).alloc (.cells #[.bool false,.slice none 0 0,.int .i64 0] 28)).drew;have bx3 := (jq.pj (W := (w.alloc (.cells #[.bool s,.slice A L.length c,.int .i64 e] 28)).alloc (.cells #[.bool t,.slice B M.length d,.int .i64 f] 28)) (g := w.heap.size+1+1) aJ false none 0 0 0).drew;have uq := (hs.below hE).drew;have yR := (hr.below hE).drew;have HE := anQ (hE.trans (iG.drew _));clear hE;have hlen := agy (a := val L) (b := val M) (k := 1000) (l := 1000) (Nx hs.ok h1) (Nx hr.ok h2);have HO := anQ (λA c w (h : Sl w A c (ij (val L*val M))) => FY (s != t) A c (ij (val L*val M)) (e+f) w h aD aD aD);rw[jR]at HO;have hD : mZ ⟨s,val L,e⟩ ⟨t,val M,f⟩=canon (s != t) (val L*val M) (e+f) := rfl;rw[hD];have HT := anQ (λw (h : Sl w A c L) (k : Sl w B d M) => ajM A B c d L M w h k aD aD);clear hD hlen;generalize canon (s != t) (val L*val M) (e+f)=D at *
  generalize val L*val M=x at *
  go_enter func245,ntmps245;go_wp2_with fail;go_region_held3 (λw' => w'.cell? ⟨w.heap.size,0,none⟩=some (.bool s)/\w'.cell? ⟨w.heap.size,1,none⟩=some (.slice A L.length c)/\w'.cell? ⟨w.heap.size,2,none⟩=some (.int .i64 e)/\w'.cell? ⟨w.heap.size+1,0,none⟩=some (.bool t)/\w'.cell? ⟨w.heap.size+1,1,none⟩=some (.slice B M.length d)/\w'.cell? ⟨w.heap.size+1,2,none⟩=some (.int .i64 f))
    (first
      |exact⟨kX.c0,kX.c1,kX.c2,lf.c0,lf.c1,lf.c2⟩
      |exact⟨(kX.ext oP).c0,(kX.ext oP).c1,(kX.ext oP).c2,(lf.ext oP).c0,(lf.ext oP).c1,(lf.ext oP).c2⟩
      |exact⟨(kX.ext (oP.trans kp)).c0,(kX.ext (oP.trans kp)).c1,(kX.ext (oP.trans kp)).c2,(lf.ext (oP.trans kp)).c0,(lf.ext (oP.trans kp)).c1,(lf.ext (oP.trans kp)).c2⟩
      |exact⟨Ds (kX.ext (oP.trans kp)).c0 aD,Ds (kX.ext (oP.trans kp)).c1 aD,Ds (kX.ext (oP.trans kp)).c2 aD,Ds (lf.ext (oP.trans kp)).c0 aD,Ds (lf.ext (oP.trans kp)).c1 aD,Ds (lf.ext (oP.trans kp)).c2 aD⟩)
    (first
      | (go_at_call 287
         refine(HT.out _ uq yR).mono ?_;rintro r wp ⟨Ap,cp,rfl,hsp,oP⟩)
      | (go_at_call 80
         refine(HO.out _ _ _ hsp).mono ?_;rintro r wo ⟨Ao,co,rfl,IM,kp⟩;have bz := bx3.ext (oP.trans kp);have z0 := bz.c0;have z1 := bz.c1;have z2 := bz.c2;have y0 := bz.fr 0;have y1 := bz.fr 1;have y2 := bz.fr 2))
  go_wp2;exact sU rfl rfl rfl (bz.set _ _ _ _ _) rfl (bz.qi IM _ _ _ _ _) (jq.pW (HE.out.trans (oP.trans kp)) aD _ _ _ _ _)
end Go.Proofs.YtbhhompalmdaiaaGreatDoor
namespace Go.Proofs.YtbhhompalmdaiaaGreatDoor.Fp
def agL{d:Dy}{j k:Int}(h1:j<=k)(h2:k<=d.e):d.j8 j=d.j8 k*2^(k-j).toNat:=by
 unfold Dy.j8;rw[bB,<-bw];congr 2;omega
def Jo{d:Dy}{j k:Int}(h1:j<=k)(h2:k<=d.e):d.num j=d.num k*((2^(k-j).toNat:Nat):Int):=by
 unfold Dy.num;rw[agL h1 h2];split
 .rw [dT,gZ]
 .rw [dT]
def vR{d:Dy}(h:d.m=0)(k:Int):d.num k=0:=by
 unfold Dy.num;rw[Wc h];split<;>rfl
def uV(x y:Int):Int:=if x<y then -1 else if y<x then 1 else 0
def Rs(x y:Int){p:Nat}(hp:0<p):uV (x*(p:Int)) (y*(p:Int))=uV x y:=by
 unfold uV;have h:(0:Int)<p:= aD ;have a:=@Int.mul_lt_mul_right (p:Int) x y h;have b:=@Int.mul_lt_mul_right (p:Int) y x h;simp only[a,b]
def oH(d:Dy)(k:Int):Prop:=d.m=0\/k<=d.e
def oH.num{d:Dy}{j k:Int}(h:oH d k)(hj:j<=k):d.num j=d.num k*((2^(k-j).toNat:Nat):Int):=by
 rcases h with h|h
 .rw [vR h,vR h,Int.zero_mul]
 .exact Jo hj h
def A8{a b:Dy}{k:Int}(ha:oH a k)(hb:oH b k):jA a b=uV (a.num k) (b.num k):=by
 have e0:jA a b=uV (a.num (min a.e b.e)) (b.num (min a.e b.e)):=rfl;rw[e0];obtain⟨j,h1,h2⟩:∃ j:Int,j<=k/\j<=min a.e b.e:=⟨min k (min a.e b.e),aD,aD⟩
 have a1:=ha.num h1;have b1:=hb.num h1;have a2:=(show oH a (min a.e b.e)from .inr aD).num h2;have b2:=(show oH b (min a.e b.e)from .inr aD).num h2;rw[<-Rs _ _ (p:=2^(min a.e b.e-j).toNat) (bA aF),<-a2,<-b2,a1,b1,Rs _ _ (bA aF)]
def agJ{s:Bool}{m:Nat}{e k:Int}(h:k<=e):(canon s m e).j8 k=m*2^(e-k).toNat:=by
 unfold canon;split
 .rename_i h0;subst h0;simp[Dy.j8]
 .rename_i h0;unfold Dy.j8;simp only;have e1:=Ha h0
  conv=>rhs;rw[<-e1]
  rw[bB,<-bw];congr 2;omega
def BL{s:Bool}{m:Nat}{e k:Int}(h:k<=e):(canon s m e).num k=if s then -((m*2^(e-k).toNat:Nat):Int)else((m*2^(e-k).toNat:Nat):Int):=by
 by_cases h0:m=0
 .subst h0;rw[vR (by simp[canon])];simp
 .have:(canon s m e).neg=s:=by unfold canon;rw[bl h0]
  unfold Dy.num;rw[agJ h,this]
def W0{m:Nat}{e k:Int}(h:k<=e):(canon false m e).num k=((m*2^(e-k).toNat:Nat):Int):=by
 rw[BL h];simp
def N6{z e k:Int}(h:k<=e):(lY z e).num k=z*((2^(e-k).toNat:Nat):Int):=by
 unfold lY;rw[BL h];by_cases hz:z<0
 .simp only[hz,gw,bN];rw[dT,<-gZ];congr 1;omega
 .simp only[hz,decide_false];rw[dT,show(z.natAbs:Int)=z by omega];simp
def zE{s:Bool}{m:Nat}{e k:Int}(h:k<=e):oH (canon s m e) k:=by
 unfold canon;split
 .exact .inl rfl
 .exact .inr (by simp only;omega)
def KC{z e k:Int}(h:k<=e):oH (lY z e) k:=zE h
def J4{a b:Dy}{k:Int}(ha:oH a k)(hb:oH b k):(iJ a b).num k=a.num k+b.num k:=by
 unfold iJ;by_cases h1:a.m=0
 .rw [bn h1,vR h1,Int.zero_add]
 .rw [bl h1];by_cases h2:b.m=0
  .rw [bn h2,vR h2,Int.add_zero]
  .rw [bl h2];have ea:k<=a.e:=by rcases ha with h|h;exact absurd h h1;exact h
   have eb:k<=b.e:=by rcases hb with h|h;exact absurd h h2;exact h
   have hm:k<=min a.e b.e:= aD ;rw[N6 hm,Int.add_mul,<-Jo hm aD,<-Jo hm aD]
def GB{a b:Dy}{k:Int}(ha:oH a k)(hb:oH b k):oH (iJ a b) k:=by
 unfold iJ;by_cases h1:a.m=0
 .rw [bn h1];exact hb
 .rw [bl h1];by_cases h2:b.m=0
  .rw [bn h2];exact ha
  .rw [bl h2];have ea:k<=a.e:=by rcases ha with h|h;exact absurd h h1;exact h
   have eb:k<=b.e:=by rcases hb with h|h;exact absurd h h2;exact h
   exact KC aD 
def wq{a b:Dy}(ha:a.lh)(hb:b.lh):(iJ a b).lh:=by
 unfold iJ;split
 .exact hb
 .split
  .exact ha
  .exact qF _ _ _
def GA{d:Dy}{k:Int}(h:oH d k):oH (jf d) k:=h
def Jm{d:Dy}(k:Int):(jf d).num k = -(d.num k):=by
 by_cases h:d.m=0
 .rw [vR h,vR (by exact h)];rfl
 .exact N8 d k h
def Ln{a b:Dy}(ha:a.lh)(hb:b.lh){k:Int}(h1:oH a k)(h2:oH b k)(h:a.num k=b.num k):a=b:=by
 have zero:∀ {d:Dy},d.lh->d.m=0->d=iQ:=by
  intro d hd h0;obtain⟨s,m,e⟩:=d;rcases hd with⟨x,y,z⟩|hd
  .simp only at x y z;subst x y z;rfl
  .simp only at hd h0;omega
 have nz:∀ {d:Dy},d.num k=0->d.m=0:=by
  intro d hd;by_cases h0:d.m=0
  .exact h0
  .exfalso;have:=vJ h0 k;unfold Dy.num at hd;split at hd<;>omega
 by_cases za:a.m=0
 .have zb:b.m=0:=nz (by rw[<-h];exact vR za k);rw[zero ha za,zero hb zb]
 .have zb:b.m≠0:=λzb=>za (nz (by rw[h];exact vR zb k))
  have oa:a.m%2=1:=by rcases ha with⟨x,_,_⟩|x;exact absurd x za;exact x
  have ob:b.m%2=1:=by rcases hb with⟨x,_,_⟩|x;exact absurd x zb;exact x
  have ea:k<=a.e:=by rcases h1 with h|h;exact absurd h za;exact h
  have eb:k<=b.e:=by rcases h2 with h|h;exact absurd h zb;exact h
  have pa:=vJ za k;have pb:=vJ zb k;have hm:a.neg=b.neg/\a.j8 k=b.j8 k:=by
   unfold Dy.num at h;cases x:a.neg<;>cases y:b.neg<;>simp[x,y]at h<;>first|exact⟨rfl,aD⟩|(exfalso;omega)
  have hc:=congrArg kr hm.2;unfold Dy.j8 at hc;rw[yz oa,yz ob]at hc;have vv:=hm.2;unfold Dy.j8 at vv;rw[hc]at vv;have EI:=anO (bA aF) vv;obtain⟨s,m,e⟩:=a;obtain⟨t,n,f⟩:=b;simp only at *
  have:e=f:= aD ;rw[hm.1,EI,this]
end Go.Proofs.YtbhhompalmdaiaaGreatDoor.Fp
namespace Go.Proofs.YtbhhompalmdaiaaGreatDoor
open Go.RowKit Fp
def J0(A:Option Addr)(c:Nat)(M:List Nat)(n:Int)(w:World)(kK:Sl w A c M)(hlen:M.length<=256)(h0:0<=n)(hn:n<=65536)(oe:(ij (val M*2^n.toNat)).length<=256):
 Calls prog 213 #[.slice A M.length c,.int .i64 n] w (sR w (ij (val M*2^n.toNat))):=by
 obtain⟨k,rfl⟩:=dk h0;exact akK A c M k w kK hlen aD oe
set_option maxHeartbeats 8000000 in
def acA(s : Bool)(A : Option Addr)(c : Nat)(L : List Nat)(e : Int)(t : Bool)(B : Option Addr)(d : Nat)(M : List Nat)(f : Int)(w : World)
    (hs : Sl w A c L) (hr : Sl w B d M) (da : oI s L e) (db : oI t M f) (Ep : val L≠0) (tZ : val M≠0):
    Calls prog 126 #[.agg #[.bool s,.slice A L.length c,.int .i64 e],.agg #[.bool t,.slice B M.length d,.int .i64 f]] w λr w' => r = .returned (.int .i64 (sS ⟨s,val L,e⟩ ⟨t,val M,f⟩))/\iG w w' := by
  obtain⟨kZ,kF⟩ := da.exp;obtain⟨MA,hf2⟩ := db.exp;have hl := da.len;have hm := db.len;have hE : iG w ((w.alloc (.cells #[.bool s,.slice A L.length c,.int .i64 e] 28)).alloc (.cells #[.bool t,.slice B M.length d,.int .i64 f] 28)) := (iG.alloc _ _).trans (iG.alloc _ _);have kX := ((jq.new w s A L.length c e).alloc (.cells #[.bool t,.slice B M.length d,.int .i64 f] 28)).drew;have lf := (jq.pj (W := w.alloc (.cells #[.bool s,.slice A L.length c,.int .i64 e] 28)) (g := w.heap.size+1) aJ t B M.length d f).drew;have uq := (hs.below hE).drew;have yR := (hr.below hE).drew;have HE := anQ (hE.trans (iG.drew _));clear hE;have HTa := anQ (λw (h : Sl w A c L) => Lj s A c L e w h da);have HTb := anQ (λw (h : Sl w B d M) => Lj t B d M f w h db);have Hlt := anQ (λh => Ru (a := ⟨s,val L,e⟩) (b := ⟨t,val M,f⟩) Ep tZ h);have Hgt := anQ (λh => Rt (a := ⟨s,val L,e⟩) (b := ⟨t,val M,f⟩) Ep tZ h);have Hta := anQ (show Dy.jd ⟨s,val L,e⟩=iA (val L)+e by unfold Dy.jd;rw[bl Ep]);have Htb := anQ (show Dy.jd ⟨t,val M,f⟩=iA (val M)+f by unfold Dy.jd;rw[bl tZ]);obtain⟨k,hk⟩ : ∃ k,min e f=k := ⟨_,rfl⟩
  have hke : k<=e := aD ;have hkf : k<=f := aD ;have lW : -17000<=k := aD ;have MN := anQ (aD:k=e\/k=f);have M4 : IntKind.i64.wrap (e-k)=e-k := i64_in _ aD aD;have hwf : IntKind.i64.wrap (f-k)=f-k := i64_in _ aD aD;have HM := anQ (show sS ⟨s,val L,e⟩ ⟨t,val M,f⟩=kD (val L*2^(e-k).toNat) (val M*2^(f-k).toNat)by unfold sS;simp only[hk];rfl);have Hfa := anQ (show iA (val L)+e=iA (val M)+f->iA (val L*2^(e-k).toNat)<=4096 from λh => by
    rw[qE Ep];have := da.bits;have := db.bits;have := MN.out;omega)
  have Hfb := anQ (show iA (val L)+e=iA (val M)+f->iA (val M*2^(f-k).toNat)<=4096 from λh => by
    rw[qE tZ];have := da.bits;have := db.bits;have := MN.out;omega)
  have HXa := anQ (λw (h : Sl w A c L) oe => J0 A c L (e-k) w h hl aD aD oe);have HXb := anQ (λw (h : Sl w B d M) oe => J0 B d M (f-k) w h hm aD aD oe);generalize Dy.jd ⟨s,val L,e⟩=ta at *
  generalize Dy.jd ⟨t,val M,f⟩=tb at *
  generalize sS ⟨s,val L,e⟩ ⟨t,val M,f⟩=R at *
  generalize val L*2^(e-k).toNat=x at *
  generalize val M*2^(f-k).toNat=y at *
  have HC := anQ (λA B c d w (h : Sl w A c (ij x)) (k : Sl w B d (ij y)) hx hy => FD A B c d (ij x) (ij y) w h k hx hy);rw[jR,jR]at HC;clear Ep tZ da db hl hm;go_enter func126,ntmps126;go_wp2_with fail;go_region_held3 (λw' => w'.cell? ⟨w.heap.size,0,none⟩=some (.bool s)/\w'.cell? ⟨w.heap.size,1,none⟩=some (.slice A L.length c)/\w'.cell? ⟨w.heap.size,2,none⟩=some (.int .i64 e)/\w'.cell? ⟨w.heap.size+1,0,none⟩=some (.bool t)/\w'.cell? ⟨w.heap.size+1,1,none⟩=some (.slice B M.length d)/\w'.cell? ⟨w.heap.size+1,2,none⟩=some (.int .i64 f))
    (first
      |exact⟨kX.c0,kX.c1,kX.c2,lf.c0,lf.c1,lf.c2⟩
      |exact⟨(kX.ext jy).c0,(kX.ext jy).c1,(kX.ext jy).c2,(lf.ext jy).c0,(lf.ext jy).c1,(lf.ext jy).c2⟩
      |exact⟨(kX.ext jT).c0,(kX.ext jT).c1,(kX.ext jT).c2,(lf.ext jT).c0,(lf.ext jT).c1,(lf.ext jT).c2⟩
      |exact⟨(kX.ext (jy.trans jT)).c0,(kX.ext (jy.trans jT)).c1,(kX.ext (jy.trans jT)).c2,(lf.ext (jy.trans jT)).c0,(lf.ext (jy.trans jT)).c1,(lf.ext (jy.trans jT)).c2⟩
      |exact⟨(kX.ext (jT.trans jy)).c0,(kX.ext (jT.trans jy)).c1,(kX.ext (jT.trans jy)).c2,(lf.ext (jT.trans jy)).c0,(lf.ext (jT.trans jy)).c1,(lf.ext (jT.trans jy)).c2⟩
      |exact⟨(kX.ext ((jy.trans jT).trans oQ)).c0,(kX.ext ((jy.trans jT).trans oQ)).c1,(kX.ext ((jy.trans jT).trans oQ)).c2,(lf.ext ((jy.trans jT).trans oQ)).c0,(lf.ext ((jy.trans jT).trans oQ)).c1,(lf.ext ((jy.trans jT).trans oQ)).c2⟩
      |exact⟨(kX.ext ((jT.trans jy).trans oQ)).c0,(kX.ext ((jT.trans jy).trans oQ)).c1,(kX.ext ((jT.trans jy).trans oQ)).c2,(lf.ext ((jT.trans jy).trans oQ)).c0,(lf.ext ((jT.trans jy).trans oQ)).c1,(lf.ext ((jT.trans jy).trans oQ)).c2⟩)
    (first
      | (go_at_call_of 154 (Value.agg #[.bool s,.slice A L.length c,.int .i64 e])
         refine(HTa.out _ ?_).mono ?_
         (first|exact uq|exact uq.below jT)
         rintro r wx ⟨rfl,jy⟩)
      | (go_at_call_of 154 (Value.agg #[.bool t,.slice B M.length d,.int .i64 f])
         refine(HTb.out _ ?_).mono ?_
         (first|exact yR|exact yR.below jy)
         rintro r wy ⟨rfl,jT⟩))
  first
    | (have qf := jy.trans jT)
    | (have qf := jT.trans jy)
  have cx1 := (kX.ext qf).drew;have cx2 := (lf.ext qf).drew;have kK := (uq.below qf).drew;have nU := (yR.below qf).drew;have cx1n := (kX.ext qf)
  have cx2n := (lf.ext qf)
  have HF := anQ ((HE.out.trans qf).trans (iG.drew _));have HFr := anQ (HE.out.trans qf);clear jy jT qf;by_cases h1 : ta<tb
  . have hR := anQ (Hlt.out h1)
    go_wp2;go_ret;exact⟨oi hR.out.symm,HFr.out⟩
  . by_cases h2 : tb<ta
    . have hR := anQ (Hgt.out h2)
      go_wp2;go_ret;exact⟨oi hR.out.symm,HFr.out⟩
    . have pB : (iA (val L) : Int)+e=iA (val M)+f := by rw[<-Hta.out,<-Htb.out];omega
      have hfa := Nw (k := 128) (Hfa.out pB);have hfb := Nw (k := 128) (Hfb.out pB);have HXa2 := anQ (λw h => HXa.out w h aD);have HXb2 := anQ (λw h => HXb.out w h aD);have HC2 := anQ (λA B c d w h k => HC.out A B c d w h k aD aD);have b0 := cx1n.c0;have b1 := cx1n.c1;have b2 := cx1n.c2;have d0 := cx2n.c0;have d1 := cx2n.c1;have d2 := cx2n.c2;clear pB hfa hfb;go_wp2_with fail;go_region_held3 (λw' => w'.cell? ⟨w.heap.size,0,none⟩=some (.bool s)/\w'.cell? ⟨w.heap.size,1,none⟩=some (.slice A L.length c)/\w'.cell? ⟨w.heap.size,2,none⟩=some (.int .i64 e)/\w'.cell? ⟨w.heap.size+1,0,none⟩=some (.bool t)/\w'.cell? ⟨w.heap.size+1,1,none⟩=some (.slice B M.length d)/\w'.cell? ⟨w.heap.size+1,2,none⟩=some (.int .i64 f))
        (first
          |exact⟨cx1.c0,cx1.c1,cx1.c2,cx2.c0,cx2.c1,cx2.c2⟩
          |exact⟨(cx1.ext jy).c0,(cx1.ext jy).c1,(cx1.ext jy).c2,(cx2.ext jy).c0,(cx2.ext jy).c1,(cx2.ext jy).c2⟩
          |exact⟨(cx1.ext jT).c0,(cx1.ext jT).c1,(cx1.ext jT).c2,(cx2.ext jT).c0,(cx2.ext jT).c1,(cx2.ext jT).c2⟩
          |exact⟨(cx1.ext (jy.trans jT)).c0,(cx1.ext (jy.trans jT)).c1,(cx1.ext (jy.trans jT)).c2,(cx2.ext (jy.trans jT)).c0,(cx2.ext (jy.trans jT)).c1,(cx2.ext (jy.trans jT)).c2⟩
          |exact⟨(cx1.ext (jT.trans jy)).c0,(cx1.ext (jT.trans jy)).c1,(cx1.ext (jT.trans jy)).c2,(cx2.ext (jT.trans jy)).c0,(cx2.ext (jT.trans jy)).c1,(cx2.ext (jT.trans jy)).c2⟩
          |exact⟨(cx1.ext ((jy.trans jT).trans oQ)).c0,(cx1.ext ((jy.trans jT).trans oQ)).c1,(cx1.ext ((jy.trans jT).trans oQ)).c2,(cx2.ext ((jy.trans jT).trans oQ)).c0,(cx2.ext ((jy.trans jT).trans oQ)).c1,(cx2.ext ((jy.trans jT).trans oQ)).c2⟩
          |exact⟨(cx1.ext ((jT.trans jy).trans oQ)).c0,(cx1.ext ((jT.trans jy).trans oQ)).c1,(cx1.ext ((jT.trans jy).trans oQ)).c2,(cx2.ext ((jT.trans jy).trans oQ)).c0,(cx2.ext ((jT.trans jy).trans oQ)).c1,(cx2.ext ((jT.trans jy).trans oQ)).c2⟩)
        (first
          | (go_at_call_of 213 (Value.slice A L.length c)
             refine(HXa2.out _ ?_).mono ?_
             (first|exact kK|exact kK.below jT)
             rintro r wx ⟨Ax,cx,rfl,UY,jy⟩)
          | (go_at_call_of 213 (Value.slice B M.length d)
             refine(HXb2.out _ ?_).mono ?_
             (first|exact nU|exact nU.below jy)
             rintro r wy ⟨Ay,cy,rfl,UZ,jT⟩)
          | (go_at_call 158
             refine(HC2.out _ _ _ _ _ ?_ ?_).mono ?_
             (first|exact UY.below jT|exact UY)
             (first|exact UZ|exact UZ.below jy)
             rintro r wz ⟨rfl,oQ⟩))
      all_goals
        go_wp2;go_ret
        (first|exact⟨oi HM.out.symm,HF.out.trans ((jy.trans jT).trans oQ)⟩|exact⟨oi HM.out.symm,HF.out.trans ((jT.trans jy).trans oQ)⟩)
def YP{d:Dy}:d.jh=0↔d.m=0:=by
 rcases B2 d with⟨h1,h2⟩|⟨h1,_,h2⟩|⟨h1,_,h2⟩<;>simp[h1,h2]
def acy(s : Bool)(A : Option Addr)(c : Nat)(L : List Nat)(e : Int)(t : Bool)(B : Option Addr)(d : Nat)(M : List Nat)(f : Int)(w : World)
    (hs : Sl w A c L) (hr : Sl w B d M) (da : oI s L e) (db : oI t M f):
    Calls prog 63 #[.agg #[.bool s,.slice A L.length c,.int .i64 e],.agg #[.bool t,.slice B M.length d,.int .i64 f]] w λr w' => r = .returned (.int .i64 (jA ⟨s,val L,e⟩ ⟨t,val M,f⟩))/\iG w w' := by
  obtain⟨kZ,kF⟩ := da.exp;obtain⟨MA,hf2⟩ := db.exp;have HVa := anQ (λw (h : Sl w A c L) => Bb s A c L e w true h aD aD (by simp[da]));have HVb := anQ (λw (h : Sl w B d M) => Bb t B d M f w true h aD aD (by simp[db]));have HSa := anQ (λw (h : Sl w A c L) => Lh s A c L e w h da);have HSb := anQ (λw (h : Sl w B d M) => Lh t B d M f w h db);have HK := anQ (λh1 h2 w (h : Sl w A c L) (k : Sl w B d M) => acA s A c L e t B d M f w h k da db h1 h2);have HP := anQ (Cr ⟨s,val L,e⟩ ⟨t,val M,f⟩);have z1 : Hid (Dy.jh ⟨s,val L,e⟩=0↔val L=0) := YP;have z2 : Hid (Dy.jh ⟨t,val M,f⟩=0↔val M=0) := YP;have IK : Dy.jh ⟨s,val L,e⟩=0\/Dy.jh ⟨s,val L,e⟩ = -1\/Dy.jh ⟨s,val L,e⟩=1 := by
    rcases B2 ⟨s,val L,e⟩with⟨_,h⟩|⟨_,_,h⟩|⟨_,_,h⟩<;>simp[h]
  have nS : sS ⟨s,val L,e⟩ ⟨t,val M,f⟩ = -1\/sS ⟨s,val L,e⟩ ⟨t,val M,f⟩=0\/sS ⟨s,val L,e⟩ ⟨t,val M,f⟩=1 := by
    unfold sS kD;split;simp;split<;>simp
  generalize Dy.jh ⟨s,val L,e⟩=sa at *
  generalize Dy.jh ⟨t,val M,f⟩=sb at *
  generalize sS ⟨s,val L,e⟩ ⟨t,val M,f⟩=cm at *
  generalize jA ⟨s,val L,e⟩ ⟨t,val M,f⟩=R at *
  have yU : IntKind.i64.wrap (sa*cm)=sa*cm := i64_in _ (by rcases IK with rfl|rfl|rfl<;>omega) (by rcases IK with rfl|rfl|rfl<;>omega);have HH := anQ IK;clear IK nS da db;go_enter func63,ntmps63;go_wp2_with fail;refine(HVa.out _ ((hs.alloc _).alloc _)).mono ?_;rintro r w1 ⟨rfl,jt⟩;have kX := ((jq.new w s A L.length c e).alloc (.cells #[.bool t,.slice B M.length d,.int .i64 f] 28)).ext jt;have lf := (jq.pj (W := w.alloc (.cells #[.bool s,.slice A L.length c,.int .i64 e] 28)) (g := w.heap.size+1) aJ t B M.length d f).ext jt;have b0 := kX.c0;have b1 := kX.c1;have b2 := kX.c2;have d0 := lf.c0;have d1 := lf.c1;have d2 := lf.c2;have hE := (((iG.alloc w (.cells #[.bool s,.slice A L.length c,.int .i64 e] 28)).trans (iG.alloc _ (.cells #[.bool t,.slice B M.length d,.int .i64 f] 28))).trans jt)
  go_wp2_with fail;refine(HVb.out _ (hr.below hE)).mono ?_;rintro r w2 ⟨rfl,lS⟩;have zT := hE.trans lS;have kX := (kX.ext lS).drew;have lf := (lf.ext lS).drew;have uq := (hs.below zT).drew;have yR := (hr.below zT).drew;have HE := anQ (zT.trans (iG.drew _));clear hE zT jt lS b0 b1 b2 d0 d1 d2;go_wp2_with fail;go_region_held3 (λw' => w'.cell? ⟨w.heap.size,0,none⟩=some (.bool s)/\w'.cell? ⟨w.heap.size,1,none⟩=some (.slice A L.length c)/\w'.cell? ⟨w.heap.size,2,none⟩=some (.int .i64 e)/\w'.cell? ⟨w.heap.size+1,0,none⟩=some (.bool t)/\w'.cell? ⟨w.heap.size+1,1,none⟩=some (.slice B M.length d)/\w'.cell? ⟨w.heap.size+1,2,none⟩=some (.int .i64 f))
    (first
      |exact⟨kX.c0,kX.c1,kX.c2,lf.c0,lf.c1,lf.c2⟩
      |exact⟨(kX.ext jy).c0,(kX.ext jy).c1,(kX.ext jy).c2,(lf.ext jy).c0,(lf.ext jy).c1,(lf.ext jy).c2⟩
      |exact⟨(kX.ext jT).c0,(kX.ext jT).c1,(kX.ext jT).c2,(lf.ext jT).c0,(lf.ext jT).c1,(lf.ext jT).c2⟩
      |exact⟨(kX.ext (jy.trans jT)).c0,(kX.ext (jy.trans jT)).c1,(kX.ext (jy.trans jT)).c2,(lf.ext (jy.trans jT)).c0,(lf.ext (jy.trans jT)).c1,(lf.ext (jy.trans jT)).c2⟩
      |exact⟨(kX.ext (jT.trans jy)).c0,(kX.ext (jT.trans jy)).c1,(kX.ext (jT.trans jy)).c2,(lf.ext (jT.trans jy)).c0,(lf.ext (jT.trans jy)).c1,(lf.ext (jT.trans jy)).c2⟩)
    (first
      | (go_at_call_of 76 (Value.agg #[.bool s,.slice A L.length c,.int .i64 e])
         refine(HSa.out _ ?_).mono ?_
         (first|exact uq|exact uq.below jT)
         rintro r wx ⟨rfl,jy⟩)
      | (go_at_call_of 76 (Value.agg #[.bool t,.slice B M.length d,.int .i64 f])
         refine(HSb.out _ ?_).mono ?_
         (first|exact yR|exact yR.below jy)
         rintro r wy ⟨rfl,jT⟩))
  first
    | (have qf := jy.trans jT)
    | (have qf := jT.trans jy)
  have cx1 := (kX.ext qf)
  have cx2 := (lf.ext qf)
  have kK := (uq.below qf)
  have nU := (yR.below qf)
  have HFr := anQ (HE.out.trans qf);clear jy jT qf;by_cases h1 : sa<sb
  . have hR := anQ (show R = -1 by rw[HP.out,bn h1])
    go_wp2;go_ret;exact⟨oi hR.out.symm,HFr.out⟩
  . by_cases h2 : sb<sa
    . have hR := anQ (show R=1 by rw[HP.out,bl h1,bn h2])
      go_wp2;go_ret;exact⟨oi hR.out.symm,HFr.out⟩
    . by_cases h3 : sa=0
      . have hR := anQ (show R=0 by rw[HP.out,bl h1,bl h2,bn h3])
        have hz : (sa==0)=true := by simp[h3]
        go_wp2;go_ret;exact⟨oi hR.out.symm,HFr.out⟩
      . have hR := anQ (show R=sa*cm by rw[HP.out,bl h1,bl h2,bl h3])
        have hz : (sa==0)=false := bd h3;have HK2 := anQ (HK.out (λh => h3 (z1.out.2 h)) (λh => h3 (by have := z2.out.2 h;omega)));have b0 := cx1.c0;have b1 := cx1.c1;have b2 := cx1.c2;have d0 := cx2.c0;have d1 := cx2.c1;have d2 := cx2.c2;go_wp2_with fail;refine(HK2.out _ kK nU).mono ?_;rintro r w3 ⟨rfl,pf⟩;go_wp2;go_ret;exact⟨oi hR.out.symm,HFr.out.trans pf⟩
def C3:ij 1=[1]:=by rw[yZ aF];simp[mW]
def Rc{L:List Nat}(h:iK L)(hl:L.length<=256)(s:Bool)(e:Int):(ij (canon s (val L) e).m).length<=100000000:=by
 unfold canon;split
 .simp [mW]
 .refine bJ (q9 (k:=256) (cK (cE _ _) ?_)) aF ;exact bT (mC h) (bI aF hl)
def KT{L:List Nat}(h:iK L)(hl:L.length<=256)(s:Bool)(e:Int)(h1:-9000000<=e)(h2:e<=9000000):-10000000<=(canon s (val L) e).e/\(canon s (val L) e).e<=10000000:=by
 unfold canon;split
 .simp
 .rename_i h0;have:=D3 h h0;simp only;omega
def ajJ(s:Bool)(A:Option Addr)(c:Nat)(L:List Nat)(e k:Int)(w:World)(hs:Sl w A c L)(hd:oI s L e)(lW:-32768<=k)(qY:k<=32768)(hr:nu (canon s (val L) (e+k))):
 Calls prog 26 #[.agg #[.bool s,.slice A L.length c,.int .i64 e],.int .i64 k] w (tf w (canon s (val L) (e+k)) 0):=by
 obtain⟨kZ,kF⟩:=hd.exp;have hlen:=hd.len;have HV:=anQ (λw (h:Sl w A c L)=>JK s A c L e w true h aD aD (by simp[hd]));have HX:=anQ (λw=>ajv k w true (by simp[lW,qY]));have hw:IntKind.i64.wrap (e+k)=e+k:=i64_in _ aD aD;have HC:=anQ (λw (h:Sl w A c L)=>FY s A c L (e+k) w h aD aD aD);have jt:=Rc hs.ok hlen s (e+k);obtain⟨lS,pf⟩:=KT hs.ok hlen s (e+k) aD aD;have hv:(canon s (val L) (e+k)).iu:=⟨qF _ _ _,hr⟩
 have HK:=anQ (λA c w (h:Sl w A c (ij (canon s (val L) (e+k)).m))=>ajt _ A c w h jt lS pf hv);generalize canon s (val L) (e+k)=D at *
 clear hd hr hv jt lS pf;go_enter func26,ntmps26;go_wp2_with fail;refine(HV.out _ ((hs.alloc _).alloc _)).mono ?_;rintro r w1 ⟨rfl,jt⟩;have kX:=((jq.new w s A L.length c e).alloc (.cells #[.bool false,.slice none 0 0,.int .i64 0] 28)).ext jt;have lf:=(jq.pj (W:=w.alloc (.cells #[.bool s,.slice A L.length c,.int .i64 e] 28)) (g:=w.heap.size+1) aJ false none 0 0 0).ext jt;have b0:=kX.c0;have b1:=kX.c1;have b2:=kX.c2;have hE:=(((iG.alloc w (.cells #[.bool s,.slice A L.length c,.int .i64 e] 28)).trans (iG.alloc _ (.cells #[.bool false,.slice none 0 0,.int .i64 0] 28))).trans jt)
 have uq:=hs.below hE;have HE:=anQ hE;clear hE jt;go_wp2_with fail;refine(HX.out _).mono ?_;rintro r w2 ⟨rfl,rfl⟩;go_wp2_with fail;refine(HC.out _ uq).mono ?_;rintro r w2 ⟨A1,c1,rfl,qL,lS⟩;go_wp2_with fail;refine(HK.out _ _ _ qL).mono ?_;rintro r w3 ⟨A2,c2,rfl,kK,pf⟩;have bz:=lf.ext (lS.trans pf);have z0:=bz.c0;have z1:=bz.c1;have z2:=bz.c2;have f0:=bz.fr 0;have f1:=bz.fr 1;have f2:=bz.fr 2;go_wp2;exact uZ rfl rfl rfl rfl (bz.set _ _ _ _ _) rfl (bz.qi kK _ _ _ _ _) (jq.pW (HE.out.trans (lS.trans pf)) aD _ _ _ _ _)
abbrev DV(d:Dy)(A:Option Addr)(c:Nat):Value:=.agg #[.bool d.neg,.slice A (ij d.m).length c,.int .i64 d.e]
def yY{n k:Nat}(h:iA n<=32*k):(ij n).length<=k:=by
 refine q9 (bT (pE _) ?_);rw[nF];exact bI aF h
def Fp.Dy.iu.uX{d:Dy}(h:d.iu):oI d.neg (ij d.m) d.e:=by
 refine⟨yg _,yY ?_,by rw[jR];exact h⟩;rcases h.range with h0|⟨h1,_⟩
 .rw [h0];exact ch _
 .omega
def Fp.Dy.iu.len{d:Dy}(h:d.iu):(ij d.m).length<=256:=h.uX.2.1
def Fp.Dy.iu.exp{d:Dy}(h:d.iu):-16384<=d.e/\d.e<=16384:=h.uX.exp
def Fp.Dy.iu.bits{d:Dy}(h:d.iu):iA d.m<=4096:=by have:=h.uX.bits;rwa[jR]at this
def Fp.Dy.iu.Zo{d:Dy}(h:d.iu)(h0:d.m≠0):(iA d.m:Int)+d.e<=16384:=by
 rcases h.range with h|⟨_,_,_,h⟩
 .exact absurd h h0
 .exact h
def jq.all{w:World}{g n c:Nat}{s:Bool}{A:Option Addr}{e:Int}(h:jq w g s A n c e):w.cell? ⟨g,0,none⟩=some (.bool s)/\w.cell? ⟨g,1,none⟩=some (.slice A n c)/\w.cell? ⟨g,2,none⟩=some (.int .i64 e):=⟨h.c0,h.c1,h.c2⟩
def jq.yC{w:World}{g n c:Nat}{s:Bool}{A:Option Addr}{e:Int}(h:jq w g s A n c e){g':Nat}(kq:g'≠g)(i:Nat)(v:Value):jq (w.setCell ⟨g',i,none⟩ v) g s A n c e:=by
 unfold jq at h ⊢;simp only[World.setCell,dz];rw[bl kq];exact h
def jq.xy{w:World}{g n c:Nat}{s:Bool}{A:Option Addr}{e:Int}(h:jq w g s A n c e){g':Nat}(kq:g'≠g)(v0 v1 v2:Value):
 jq (((w.setCell ⟨g',0,none⟩ v0).setCell ⟨g',1,none⟩ v1).setCell ⟨g',2,none⟩ v2) g s A n c e:=((h.yC kq 0 v0).yC kq 1 v1).yC kq 2 v2
structure uM(d:Dy):Prop where
 len:(ij d.m).length<=256
 lo:-17000<=d.e
 hi:d.e<=17000
def Fp.Dy.iu.w8{d:Dy}(h:d.iu):uM d:=⟨h.len,by have:=h.exp;omega,by have:=h.exp;omega⟩
def ajF(a b:Dy)(A B:Option Addr)(c d:Nat)(w:World)(h:Sl w A c (ij a.m))(k:Sl w B d (ij b.m))(ha:uM a)(hb:uM b):
 Calls prog 245 #[DV a A c,DV b B d] w (tR w (mZ a b)):=by
 have:=ajE a.neg A c (ij a.m) a.e b.neg B d (ij b.m) b.e w h k (by have:=ha.len;omega) (by have:=hb.len;omega) (by have:=ha.lo;omega) (by have:=ha.hi;omega) (by have:=hb.lo;omega) (by have:=hb.hi;omega);rw[jR,jR]at this;exact this
def acz(a b:Dy)(A B:Option Addr)(c d:Nat)(w:World)(h:Sl w A c (ij a.m))(k:Sl w B d (ij b.m))(ha:a.iu)(hb:b.iu):
 Calls prog 63 #[DV a A c,DV b B d] w λe w'=>e = .returned (.int .i64 (jA a b))/\iG w w':=by
 have:=acy a.neg A c (ij a.m) a.e b.neg B d (ij b.m) b.e w h k ha.uX hb.uX;rw[jR,jR]at this;exact this
def acx(a:Dy)(A:Option Addr)(c:Nat)(w:World)(h:Sl w A c (ij a.m))(ha:a.iu):
 Calls prog 266 #[DV a A c] w λe w'=>e = .returned (.int .i64 (iA a.m))/\iG w w':=by
 have:=acw a.neg A c (ij a.m) a.e w h ha.uX;rw[jR]at this;exact this
def acE(a:Dy)(A:Option Addr)(c:Nat)(w:World)(h:Sl w A c (ij a.m))(ha:a.iu):
 Calls prog 76 #[DV a A c] w λe w'=>e = .returned (.int .i64 a.jh)/\iG w w':=by
 have:=Lh a.neg A c (ij a.m) a.e w h ha.uX;rw[jR]at this;exact this
def Hh(a:Dy)(A:Option Addr)(c:Nat)(w:World)(h:Sl w A c (ij a.m))(ha:a.iu):
 Calls prog 40 #[DV a A c] w λe w'=>e = .returned (.bool true)/\iG w w':=
 Bb a.neg A c (ij a.m) a.e w true h (by have:=ha.exp;omega) (by have:=ha.exp;omega) (by simp[ha.uX])
open Pu
def Qd:∀ w w',Tb w->Below w.heap.size w w'->Tb w':=λ_ _ h hb=>h.below hb
def mixed:prog.follows .mixedOrders=true:= aG 
abbrev ig(f:FuncId)(args:List E)(kj:E):Prop:=PC prog Tb f args kj
def iw(L:List Nat):E:=.sl false L.length 1 λi _=>.v (.int .u32 (L.getD i 0:Int))
def im(d:Dy):E:=.agg [.v (.bool d.neg),iw (ij d.m),.v (.int .i64 d.e)]
abbrev iP(z:Int):E:=.v (.int .i64 z)
abbrev bP(b:Bool):E:=.v (.bool b)
abbrev aq:List E:=[bP false,.v (.slice none 0 0),iP 0]
abbrev ar:List E:=[bP false,.v (.slice none 0 0),iP 0,bP false,.v (.slice none 0 0),iP 0,bP false]
def uI{bs br:Nat->Prop}{w:World}{L:List Nat}{v:Value}(hk:iK L)(h:iR bs br w (iw L) v):∃ A c,v = .slice A L.length c/\Sl w A c L:=by
 cases h with
 |sl _ _ _ _ A c f hc hm h0 hl hr cell kk=>
  refine⟨A,c,rfl,hc,hm,hk,h0,λi x hx=>?_⟩;obtain⟨hi,sA⟩:=cC.1 hx;obtain⟨b,o,e1,_,iO,mf⟩:=cell i 0 hi aF;have hv:=iR.kN (kk i 0 hi aF);refine⟨b,o,e1,iO,?_⟩;rw[cg,bK,hv]at mf;rw[mf];simp[bu,hx]
def zq{B br:Nat->Prop}{w w':World}{A:Option Addr}{c:Nat}{L:List Nat}(hB:∀ b,B b->b<w.heap.size/\oK w b)(hb:iG w w')(h:Sl w' A c L):iR B br w' (iw L) (.slice A L.length c):=by
 refine .sl false L.length 1 _ A c (λi _=>.int .u32 (L.getD i 0:Int)) h.cap h.pS h.w9 (λi j _ _=>⟨rfl,λh=>by cases h⟩) (λi j _ _=>rfl) (λi j hi hj=>?_) (λi j _ _=>.v _)
 .obtain rfl:j=0:= aD ;obtain⟨b,o,e1,iO,mf⟩:=h.lL hi;have e2:L.getD i 0=L[i]:=by simp[bu,hi]
  refine⟨b,o,e1,λtq=>?_,iO,by rw[cg,bK,mf,e2]⟩;obtain⟨h1,h2⟩:=hB b tq;exact(h2.De (hb.block b h1)) _ _ mf
def Hg{bs br:Nat->Prop}{w:World}{d:Dy}{v:Value}(h:iR bs br w (im d) v):∃ A c,v=DV d A c/\Sl w A c (ij d.m):=by
 obtain⟨vs,rfl,q⟩:=iR.Cj (show iR bs br w (.agg _) v from h);obtain⟨v1,vs,rfl,h1,q⟩:=q.my;obtain⟨v2,vs,rfl,h2,q⟩:=q.my;obtain⟨v3,vs,rfl,h3,q⟩:=q.my;obtain rfl:=q.pH;obtain rfl:=iR.kN h1;obtain rfl:=iR.kN h3;obtain⟨A,c,rfl,hs⟩:=uI (kS _) h2;exact⟨A,c,rfl,hs⟩
def Sd{B br:Nat->Prop}{w w':World}{A:Option Addr}{c:Nat}{d:Dy}(hB:∀ b,B b->b<w.heap.size/\oK w b)(hb:iG w w')(h:Sl w' A c (ij d.m)):iR B br w' (im d) (DV d A c):=
 kB.agg (.cons (.v _) (.cons (zq hB hb h) (.cons (.v _) (.nil _ _ _))))
section
variable {f:FuncId} {a b:Dy}
def xZ(hc:∀ (vs:Array Value) (w:World),(callFunc f vs).run prog w = .ok (.enter f vs) w){kj:E}{R:World->Ending->World->Prop}
 (H:∀ A c w,Sl w A c (ij a.m)->Tb w->Calls prog f #[DV a A c] w (R w)) (hR:∀ (B:Nat->Prop) w e w',(∀ b,B b->b<w.heap.size/\oK w b)->R w e w'->∃ v,e = .returned v/\Below w.heap.size w w'/\iR B (λ_=>True) w' kj v):ig f [im a] kj:=by
 refine⟨hc,λw B vs hK hB hr=>?_⟩;obtain⟨v1,vs,rfl,h1,hr⟩:=hr.my;obtain rfl:=hr.pH;obtain⟨A,c,rfl,s1⟩:=Hg h1;exact(H A c w s1 hK).mono λe w' h=>hR B w e w' hB h
def Jv(hc:∀ (vs:Array Value) (w:World),(callFunc f vs).run prog w = .ok (.enter f vs) w){kj:E}{R:World->Ending->World->Prop}
 (H:∀ A c A' c' w,Sl w A c (ij a.m)->Sl w A' c' (ij b.m)->Tb w->Calls prog f #[DV a A c,DV b A' c'] w (R w)) (hR:∀ (B:Nat->Prop) w e w',(∀ b,B b->b<w.heap.size/\oK w b)->R w e w'->∃ v,e = .returned v/\Below w.heap.size w w'/\iR B (λ_=>True) w' kj v):ig f [im a,im b] kj:=by
 refine⟨hc,λw B vs hK hB hr=>?_⟩;obtain⟨v1,vs,rfl,h1,hr⟩:=hr.my;obtain⟨v2,vs,rfl,h2,hr⟩:=hr.my;obtain rfl:=hr.pH;obtain⟨A,c,rfl,s1⟩:=Hg h1;obtain⟨A',c',rfl,s2⟩:=Hg h2;exact(H A c A' c' w s1 s2 hK).mono λe w' h=>hR B w e w' hB h
end
def rv{x:Value}:∀ (B:Nat->Prop) (w:World) (e:Ending) (w':World),(∀ b,B b->b<w.heap.size/\oK w b)->(e = .returned x/\iG w w')->∃ v,e = .returned v/\Below w.heap.size w w'/\iR B (λ_=>True) w' (.v x) v:=
 λ_ _ _ _ _ h=>⟨x,h.1,h.2,.v x⟩
def rd{d:Dy}:∀ (B:Nat->Prop) (w:World) (e:Ending) (w':World),(∀ b,B b->b<w.heap.size/\oK w b)->tR w d e w'->∃ v,e = .returned v/\Below w.heap.size w w'/\iR B (λ_=>True) w' (im d) v:=
 λ_ _ _ _ hB ⟨_,_,h1,h2,h3⟩=>⟨_,h1,h3,Sd hB h3 h2⟩
def FX{d:Dy}{n:Int}:∀ (B:Nat->Prop) (w:World) (e:Ending) (w':World),(∀ b,B b->b<w.heap.size/\oK w b)->tf w d n e w'->∃ v,e = .returned v/\Below w.heap.size w w'/\iR B (λ_=>True) w' (.iB [im d,iP n]) v:=
 λ_ _ _ _ hB ⟨_,_,h1,h2,h3⟩=>⟨_,h1,h3,kB.iB (.cons (Sd hB h3 h2) (.cons (.v _) (.nil _ _ _)))⟩
def tc:E.le (.agg aq) (im iQ):=by
 have:im iQ = .agg [bP false,.sl false 0 1 λi _=>.v (.int .u32 (((ij 0).getD i 0:Nat):Int)),iP 0]:=by
  show E.agg [bP false,iw (ij 0),iP 0]=_;unfold iw;rw[mW];rfl
 rw[this];exact .agg (.cons (.refl _) (.cons (.nil _ _ _) (.cons (.refl _) .nil)))
def nK(a b:Dy)(ha:a.iu)(hb:b.iu):ig 63 [im a,im b] (iP (jA a b)):=Jv call63 (λA c A' c' w h k _=>acz a b A A' c c' w h k ha hb) rv
def rW(a:Dy)(ha:a.iu):ig 76 [im a] (iP a.jh):=xZ call76 (λA c w h _=>acE a A c w h ha) rv
def rz(a:Dy)(ha:a.iu):ig 40 [im a] (bP true):=xZ call40 (λA c w h _=>Hh a A c w h ha) rv
def Sa(a:Dy)(ha:a.iu):ig 266 [im a] (iP (iA a.m)):=xZ call266 (λA c w h _=>acx a A c w h ha) rv
def ajG(a b:Dy)(ha:uM a)(hb:uM b):ig 245 [im a,im b] (im (mZ a b)):=Jv call245 (λA c A' c' w h k _=>ajF a b A A' c c' w h k ha hb) rd
def TT:List TI:=[
 ⟨3,.int .i64,⟨.int .i64, "int", 1,8,false,8,8,some (.int .i64 0),true,#[]⟩⟩,
 ⟨4,.bool,⟨.bool, "bool", 1,1,false,1,1,some (.bool false),true,#[]⟩⟩,
 ⟨5,.int .u8,⟨.int .u8, "uint8", 1,1,false,1,1,some (.int .u8 0),true,#[]⟩⟩,
 ⟨9,.string,⟨.string, "string", 1,16,true,8,8,some (.string ⟨#[]⟩),true,#[]⟩⟩,
 ⟨23,.struct #[⟨"N", 3,0,false, "", "", 0⟩,⟨"D", 3,1,false, "", "", 8⟩],⟨.named "flowpipe/api.Ratio" 22, "api.Ratio", 2,16,false,8,8,some (.agg #[.int .i64 0,.int .i64 0]),true,#[]⟩⟩,
 ⟨26,.slice 72,⟨.slice 72, "[]uint32", 1,24,true,8,8,some (.slice none 0 0),false,#[]⟩⟩,
 ⟨28,.struct #[⟨"Neg", 4,0,false, "", "", 0⟩,⟨"M", 26,1,false, "", "", 8⟩,⟨"E", 3,2,false, "", "", 32⟩],⟨.named "flowpipe/api.Dyadic" 27, "api.Dyadic", 3,40,true,8,8,some (.agg #[.bool false,.slice none 0 0,.int .i64 0]),false,#[]⟩⟩,
 ⟨33,.struct #[⟨"Lo", 28,0,false, "", "", 0⟩,⟨"Hi", 28,3,false, "", "", 40⟩,⟨"All", 4,6,false, "", "", 80⟩],⟨.named "flowpipe/api.Interval" 32, "api.Interval", 7,88,true,8,8,some (.agg #[.bool false,.slice none 0 0,.int .i64 0,.bool false,.slice none 0 0,.int .i64 0,.bool false]),false,#[]⟩⟩,
 ⟨35,.slice 33,⟨.slice 33, "[]api.Interval", 1,24,true,8,8,some (.slice none 0 0),false,#[]⟩⟩,
 ⟨36,.slice 161,⟨.slice 161, "[]api.Op", 1,24,true,8,8,some (.slice none 0 0),false,#[]⟩⟩,
 ⟨37,.slice 3,⟨.slice 3, "[]int", 1,24,true,8,8,some (.slice none 0 0),false,#[]⟩⟩,
 ⟨39,.struct #[⟨"Ins", 3,0,false, "", "", 0⟩,⟨"Ops", 36,1,false, "", "", 8⟩,⟨"Outs", 37,2,false, "", "", 32⟩],⟨.named "flowpipe/api.Tape" 38, "api.Tape", 3,56,true,8,8,some (.agg #[.int .i64 0,.slice none 0 0,.slice none 0 0]),false,#[]⟩⟩,
 ⟨41,.struct #[⟨"Tape", 39,0,false, "", "", 0⟩,⟨"States", 3,3,false, "", "", 56⟩,⟨"Params", 35,4,false, "", "", 64⟩],⟨.named "flowpipe/api.System" 40, "api.System", 5,88,true,8,8,some (.agg #[.int .i64 0,.slice none 0 0,.slice none 0 0,.int .i64 0,.slice none 0 0]),false,#[]⟩⟩,
 ⟨43,.int .i64,⟨.named "flowpipe/api.Errno" 3, "api.Errno", 1,8,false,8,8,some (.int .i64 0),true,#[]⟩⟩,
 ⟨46,.slice 35,⟨.slice 35, "[][]api.Interval", 1,24,true,8,8,some (.slice none 0 0),false,#[]⟩⟩,
 ⟨55,.slice 23,⟨.slice 23, "[]api.Ratio", 1,24,true,8,8,some (.slice none 0 0),false,#[]⟩⟩,
 ⟨64,.func #[33,33] #[4] false,⟨.func #[33,33] #[4] false, "func(api.Interval, api.Interval) bool", 1,8,true,8,8,some (.nilFunc),false,#[]⟩⟩,
 ⟨65,.int .u64,⟨.int .u64, "uint64", 1,8,false,8,8,some (.int .u64 0),true,#[]⟩⟩,
 ⟨72,.int .u32,⟨.int .u32, "uint32", 1,4,false,4,4,some (.int .u32 0),true,#[]⟩⟩,
 ⟨77,.slice 9,⟨.slice 9, "[]string", 1,24,true,8,8,some (.slice none 0 0),false,#[]⟩⟩,
 ⟨78,.slice 118,⟨.slice 118, "[]api.Expr", 1,24,true,8,8,some (.slice none 0 0),false,#[]⟩⟩,
 ⟨93,.func #[3] #[33] false,⟨.func #[3] #[33] false, "func(int) api.Interval", 1,8,true,8,8,some (.nilFunc),false,#[]⟩⟩,
 ⟨95,.func #[33] #[4] false,⟨.func #[33] #[4] false, "func(api.Interval) bool", 1,8,true,8,8,some (.nilFunc),false,#[]⟩⟩,
 ⟨106,.func #[33,33,3] #[33] false,⟨.func #[33,33,3] #[33] false, "func(api.Interval, api.Interval, int) api.Interval", 1,8,true,8,8,some (.nilFunc),false,#[]⟩⟩,
 ⟨109,.func #[3] #[4] false,⟨.func #[3] #[4] false, "func(int) bool", 1,8,true,8,8,some (.nilFunc),false,#[]⟩⟩,
 ⟨112,.int .u64,⟨.int .u64, "uint", 1,8,false,8,8,some (.int .u64 0),true,#[]⟩⟩,
 ⟨118,.struct #[⟨"Kind", 3,0,false, "", "", 0⟩,⟨"Num", 23,1,false, "", "", 8⟩,⟨"Name", 9,3,false, "", "", 24⟩,⟨"N", 3,4,false, "", "", 40⟩,⟨"L", 78,5,false, "", "", 48⟩],⟨.named "flowpipe/api.Expr" 117, "api.Expr", 6,72,true,8,8,some (.agg #[.int .i64 0,.int .i64 0,.int .i64 0,.string ⟨#[]⟩,.int .i64 0,.slice none 0 0]),false,#[]⟩⟩,
 ⟨129,.func #[28,3] #[28,43] false,⟨.func #[28,3] #[28,43] false, "func(api.Dyadic, int) (api.Dyadic, api.Errno)", 1,8,true,8,8,some (.nilFunc),false,#[]⟩⟩,
 ⟨144,.func #[3,3,33] #[33] false,⟨.func #[3,3,33] #[33] false, "func(int, int, api.Interval) api.Interval", 1,8,true,8,8,some (.nilFunc),false,#[]⟩⟩,
 ⟨152,.func #[35] #[4] false,⟨.func #[35] #[4] false, "func([]api.Interval) bool", 1,8,true,8,8,some (.nilFunc),false,#[]⟩⟩,
 ⟨161,.struct #[⟨"Kind", 3,0,false, "", "", 0⟩,⟨"A", 3,1,false, "", "", 8⟩,⟨"B", 3,2,false, "", "", 16⟩,⟨"N", 3,3,false, "", "", 24⟩,⟨"C", 23,4,false, "", "", 32⟩],⟨.named "flowpipe/api.Op" 160, "api.Op", 6,48,false,8,8,some (.agg #[.int .i64 0,.int .i64 0,.int .i64 0,.int .i64 0,.int .i64 0,.int .i64 0]),true,#[]⟩⟩,
 ⟨173,.slice 175,⟨.slice 175, "[][2]api.Dyadic", 1,24,true,8,8,some (.slice none 0 0),false,#[]⟩⟩,
 ⟨175,.array 2 28,⟨.array 2 28, "[2]api.Dyadic", 6,80,true,8,8,some (.agg #[.bool false,.slice none 0 0,.int .i64 0,.bool false,.slice none 0 0,.int .i64 0]),false,#[]⟩⟩,
 ⟨183,.func #[28,28,3] #[28,43] false,⟨.named "flowpipe/interval.rounded" 147, "interval.rounded", 1,8,true,8,8,some (.nilFunc),false,#[]⟩⟩,
 ⟨184,.array 4 175,⟨.array 4 175, "[4][2]api.Dyadic", 24,320,true,8,8,some (.agg #[.bool false,.slice none 0 0,.int .i64 0,.bool false,.slice none 0 0,.int .i64 0,.bool false,.slice none 0 0,.int .i64 0,.bool false,.slice none 0 0,.int .i64 0,.bool false,.slice none 0 0,.int .i64 0,.bool false,.slice none 0 0,.int .i64 0,.bool false,.slice none 0 0,.int .i64 0,.bool false,.slice none 0 0,.int .i64 0]),false,#[]⟩⟩,
 ⟨206,.struct #[⟨"m", 26,0,false, "", "flowpipe/round", 0⟩,⟨"e", 3,1,false, "", "flowpipe/round", 24⟩,⟨"more", 4,2,false, "", "flowpipe/round", 32⟩],⟨.named "flowpipe/round.exact" 205, "round.exact", 3,40,true,8,8,some (.agg #[.slice none 0 0,.int .i64 0,.bool false]),false,#[]⟩⟩,
 ⟨210,.slice 26,⟨.slice 26, "[][]uint32", 1,24,true,8,8,some (.slice none 0 0),false,#[]⟩⟩,
 ⟨212,.func #[26] #[4] false,⟨.func #[26] #[4] false, "func([]uint32) bool", 1,8,true,8,8,some (.nilFunc),false,#[]⟩⟩,
 ⟨218,.map 3 222,⟨.map 3 222, "map[int]func(gradient.node) api.Interval", 1,8,true,8,8,some (.map none),false,#[]⟩⟩,
 ⟨221,.struct #[⟨"o", 161,0,false, "", "flowpipe/gradient", 0⟩,⟨"v", 33,6,false, "", "flowpipe/gradient", 48⟩,⟨"a", 33,13,false, "", "flowpipe/gradient", 136⟩,⟨"b", 33,20,false, "", "flowpipe/gradient", 224⟩,⟨"da", 33,27,false, "", "flowpipe/gradient", 312⟩,⟨"db", 33,34,false, "", "flowpipe/gradient", 400⟩,⟨"p", 3,41,false, "", "flowpipe/gradient", 488⟩],⟨.named "flowpipe/gradient.node" 220, "gradient.node", 42,496,true,8,8,some (.agg #[.int .i64 0,.int .i64 0,.int .i64 0,.int .i64 0,.int .i64 0,.int .i64 0,.bool false,.slice none 0 0,.int .i64 0,.bool false,.slice none 0 0,.int .i64 0,.bool false,.bool false,.slice none 0 0,.int .i64 0,.bool false,.slice none 0 0,.int .i64 0,.bool false,.bool false,.slice none 0 0,.int .i64 0,.bool false,.slice none 0 0,.int .i64 0,.bool false,.bool false,.slice none 0 0,.int .i64 0,.bool false,.slice none 0 0,.int .i64 0,.bool false,.bool false,.slice none 0 0,.int .i64 0,.bool false,.slice none 0 0,.int .i64 0,.bool false,.int .i64 0]),false,#[]⟩⟩,
 ⟨222,.func #[221] #[33] false,⟨.func #[221] #[33] false, "func(gradient.node) api.Interval", 1,8,true,8,8,some (.nilFunc),false,#[]⟩⟩,
 ⟨225,.slice 28,⟨.slice 28, "[]api.Dyadic", 1,24,true,8,8,some (.slice none 0 0),false,#[]⟩⟩,
 ⟨245,.struct #[⟨"p", 3,0,false, "", "flowpipe/exponent", 0⟩],⟨.named "flowpipe/exponent.work" 244, "exponent.work", 1,8,false,8,8,some (.agg #[.int .i64 0]),true,#[⟨"flowpipe/exponent.add", 94,#[],some (346,false)⟩,⟨"flowpipe/exponent.div", 94,#[],some (345,false)⟩,⟨"flowpipe/exponent.exp", 97,#[],some (355,false)⟩,⟨"flowpipe/exponent.halved", 96,#[],some (344,false)⟩,⟨"flowpipe/exponent.log", 97,#[],some (347,false)⟩,⟨"flowpipe/exponent.mul", 94,#[],some (348,false)⟩,⟨"flowpipe/exponent.small", 95,#[],some (357,false)⟩]⟩⟩,
 ⟨252,.struct #[⟨"neg", 4,0,false, "", "flowpipe/circle", 0⟩,⟨"m", 26,1,false, "", "flowpipe/circle", 8⟩],⟨.named "flowpipe/circle.fix" 251, "circle.fix", 2,32,true,8,8,some (.agg #[.bool false,.slice none 0 0]),false,#[⟨"flowpipe/circle.add", 263,#[],some (370,false)⟩,⟨"flowpipe/circle.by", 259,#[],some (373,false)⟩,⟨"flowpipe/circle.minus", 257,#[],some (361,false)⟩,⟨"flowpipe/circle.times", 260,#[],some (367,false)⟩,⟨"flowpipe/circle.zero", 24,#[],some (371,false)⟩]⟩⟩,
 ⟨263,.func #[252] #[252] false,⟨.func #[252] #[252] false, "func(circle.fix) circle.fix", 1,8,true,8,8,some (.nilFunc),false,#[]⟩⟩]
def AU:mI prog TT:=Gy.ok ⟨⟨underlying3,aG⟩,⟨underlying4,aG⟩,⟨underlying5,aG⟩,⟨underlying9,aG⟩,⟨underlying23,aG⟩,⟨underlying26,aG⟩,⟨underlying28,aG⟩,⟨underlying33,aG⟩,⟨underlying35,aG⟩,⟨underlying36,aG⟩,⟨underlying37,aG⟩,⟨underlying39,aG⟩,⟨underlying41,aG⟩,⟨underlying43,aG⟩,⟨underlying46,aG⟩,⟨underlying55,aG⟩,⟨underlying64,aG⟩,⟨underlying65,aG⟩,⟨underlying72,aG⟩,⟨underlying77,aG⟩,⟨underlying78,aG⟩,⟨underlying93,aG⟩,⟨underlying95,aG⟩,⟨underlying106,aG⟩,⟨underlying109,aG⟩,⟨underlying112,aG⟩,⟨underlying118,aG⟩,⟨underlying129,aG⟩,⟨underlying144,aG⟩,⟨underlying152,aG⟩,⟨underlying161,aG⟩,⟨underlying173,aG⟩,⟨underlying175,aG⟩,⟨underlying183,aG⟩,⟨underlying184,aG⟩,⟨underlying206,aG⟩,⟨underlying210,aG⟩,⟨underlying212,aG⟩,⟨underlying218,aG⟩,⟨underlying221,aG⟩,⟨underlying222,aG⟩,⟨underlying225,aG⟩,⟨underlying245,aG⟩,⟨underlying252,aG⟩,⟨underlying263,aG⟩,trivial⟩
end Go.Proofs.YtbhhompalmdaiaaGreatDoor
namespace Go.Proofs.YtbhhompalmdaiaaGreatDoor.Pu
open Go.RowKit
def E.jH:E->Nat->Nat->E
 | .sl _ _ _ el,i,j=>el i j
 |_,_,_=>.any
section
variable {P:Program} {K:World->Prop}
def Sp.pre{c:Code}{σ τ:PS}{Q:Ex->PS->Prop}(h:PS.le σ τ)(k:Sp P K c τ Q):Sp P K c σ Q:=λw0 B a w L g r=>
 let⟨L',r'⟩:=h w0 B a w L (λb hb=>(g.hB b hb).1) r;k w0 B a w L' g r'
def Sp.post{c:Code}{σ:PS}{Q Q':Ex->PS->Prop}(h:Sp P K c σ Q)(k:∀ e τ,Q e τ->∃ τ',PS.le τ τ'/\Q' e τ'):Sp P K c σ Q':=λw0 B a w L g r=>
 Code.wp_mono (λ_ _ _ ⟨ex,τ,L',h1,h2,h3⟩=>let⟨τ',q1,q2⟩:=k ex τ h2;let⟨L2,r2⟩:=q1 w0 B _ _ L' (λb hb=>(g.hB b hb).1) h3;⟨ex,τ',L2,h1,q2,r2⟩) (h w0 B a w L g r)
def Sp.fam{α:Type}(f:α->PS)(p:α->Prop)(m:α->Nat){b:Code}{e:Ex}{τ:PS}
 (step:∀ x,p x->Sp P K b (f x) (λe' υ=>(e' = .normal/\∃ y,p y/\m y<m x/\υ=f y)\/(e' ≠ .normal/\e'=e/\υ=τ))) {σ:PS} (x:α) (hx:p x) (h0:PS.le σ (f x)):
 Sp P K (.loop b) σ (λe' υ=>e'=e/\υ=τ):=by
 refine Sp.pre h0 ?_;refine Sp.loop (Q:=λe' υ=>e'=e/\υ=τ) (λn σ=>∃ x,p x/\m x=n/\σ=f x) (λn σ ⟨x,h1,h2,h3⟩=>?_) (m x) (f x) ⟨x,hx,rfl,rfl⟩;subst h3 h2;exact(step x h1).mono λe' υ h=>h.imp (λ⟨q1,y,q2,q3,q4⟩=>⟨q1,m y,q3,y,q2,rfl,q4⟩) id
def Sp.adI{α:Type}{f:α->PS}{p:α->Prop}{m:α->Nat}{b:Code}{e:Ex}{τ υ:PS}{x:α}(y:α)(h:Sp P K b (f x) (λe' υ'=>e' = .normal/\υ'=υ))(hy:p y)(hm:m y<m x)(hl:PS.le υ (f y)):
 Sp P K b (f x) (λe' υ=>(e' = .normal/\∃ y,p y/\m y<m x/\υ=f y)\/(e' ≠ .normal/\e'=e/\υ=τ)):=
 h.post λ_ _ ⟨h1,h2⟩=>⟨f y,h2▸hl,.inl ⟨h1,y,hy,hm,rfl⟩⟩
def Sp.adJ{α:Type}{f:α->PS}{p:α->Prop}{m:α->Nat}{b:Code}{e:Ex}{τ υ:PS}{x:α}(h:Sp P K b (f x) (λe' υ'=>e'=e/\υ'=υ))(he:e ≠ .normal)(hl:PS.le υ τ):
 Sp P K b (f x) (λe' υ=>(e' = .normal/\∃ y,p y/\m y<m x/\υ=f y)\/(e' ≠ .normal/\e'=e/\υ=τ)):=
 h.post λ_ _ ⟨h1,h2⟩=>⟨τ,h2▸hl,.inr ⟨h1▸he,h1,rfl⟩⟩
end
def An(k:Nat):Code->Option Code
 | .loop b=>if Nat.beq (Ej b) k then some b else An k b
 | .seq a b=>match An k a with
  |some c=>some c
  |none=>An k b
 | .cond _ a b=>match An k a with
  |some c=>some c
  |none=>An k b
 | .block _ b=>An k b
 | .scope b=>An k b
 |_=>none
def aa5(k:Nat)(fn:Func):Code:=((fn.body.bind (An k)).getD .skip)
def Bx.le.jb{a b:Bx}(h:a=b):Bx.le a b:=h▸Bx.le.refl a
def Bx.le.cells{T:TypeId}{l m:List E}(hn:(l.all E.nW=true->m.all E.nW=true))(h:sP l m):Bx.le (.cells T l) (.cells T m):=⟨hn,λ_ _ _ _ _ ⟨b,vs,h1,h2,h3,h4,h5⟩=>⟨b,vs,h1,h2,h3,h.JL h4,h5⟩⟩
def Bx.le.row{nl:Bool}{T:TypeId}{n n' sz:Nat}{el el':Nat->Nat->E}(hn:n=n')(h:∀ i j,i<n->j<sz->E.le (el i j) (el' i j)/\(el' i j).nr 2=true):Bx.le (.row nl T n sz el) (.row nl T n' sz el'):=
 ⟨id,λ_ _ _ _ _ ⟨f,h1,h2,h3⟩=>by subst hn;exact⟨f,h1,h2,λi j hi hj=>⟨(h i j hi hj).1 _ _ _ _ (h3 i j hi hj).1,(h i j hi hj).2⟩⟩⟩
def Bx.le.jm{nl:Bool}{T1 T0:TypeId}{n n' sz:Nat}{len len':Nat->Nat}{el el':Nat->Nat->Nat->E}{pend:Option Nat}(hn:n=n')(hl:∀ k,k<n->len k=len' k)
 (h:∀ k i j,k<n->i<len k->j<sz->E.le (el k i j) (el' k i j)/\(el' k i j).nr 2=true):Bx.le (.jm nl T1 T0 n sz len el pend) (.jm nl T1 T0 n' sz len' el' pend):=
 ⟨id,λ_ _ _ _ _ ⟨b,c,cur,f,h1,h2,h3,h4,h5,h6,h7,h8,h9,rY,vn⟩=>by
  subst hn;refine⟨b,c,cur,f,h1,h2,h3,h4,h5,h6,h7,λk hk=>?_,h9,rY,vn⟩;rw[<-hl k hk];exact⟨(h8 k hk).1,λi j hi hj=>⟨(h k i j hk hi hj).1 _ _ _ _ ((h8 k hk).2 i j hi hj).1,(h k i j hk hi hj).2⟩⟩⟩
def PS.le.agd{σ τ:PS}(hn:σ.n=τ.n)(ku:(τ.b.all λx=>x.2.nl)=true)(hr:F1 τ=true)(ht:xp σ τ.t)(hb:vW σ τ.b):PS.le σ τ:=λw0 B a w L _ r=>by
 let L':Lk:=⟨λid=>L.oh id/\(τ.bo id).isSome=true,λid x=>L.own id x/\(τ.bo id).isSome=true,L.val,L.jI⟩
 have iO:su L w L' w:=⟨bp _,λx _ ⟨id,h,_⟩=>⟨id,h⟩,λ_ _ _=>rfl⟩
 refine⟨L',r.hd,by rw[<-hn];exact r.hs,λt=>?_,λid b h=>?_,λid=>?_,λid x h=>⟨r.hn id x h.1,h.2⟩,λid x h=>r.hw id x h.1,λid id' x h k=>r.hi id id' x h.1 k.1,r.he,λh id b k=>?_⟩
 .have hg:τ.get t=((look τ.t t)).getD (.e .any):=rfl;cases hl:look τ.t t with
  |none=>rw[hg,hl];exact .any _
  |some p=>
   rw[hg,hl];have:=ht.get hl _ _ _ _ _ (r.ht t);refine nJ.move iO this λid hid vr=>⟨⟨vr,?_⟩,rfl,λ_=>rfl⟩
   have q:=ct.1 hr _ (NB hl);exact ct.1 q id hid
 .obtain ⟨b',h1,h2⟩:=hb.get h;have hs:(τ.bo id).isSome=true:=by rw[h];rfl
  exact(h2.2 _ _ _ _ _ (r.hb id b' h1)).later iO rfl (λx=>⟨λq=>q.1,λq=>⟨q,hs⟩⟩) (λ_=>rfl) λ_ _=>rfl
 .show L.oh id/\(τ.bo id).isSome=true↔(τ.bo id).isSome=true;refine⟨λh=>h.2,λh=>⟨(r.hv id).2 ?_,h⟩⟩;obtain⟨b,kp⟩:=gU.1 h;obtain⟨b',h1,_⟩:=hb.get kp;rw[h1];rfl
 .exact ct.1 ku _ (NB k)
def PV.xz(id:Nat)(e:E)(p:PV):PV:=match p with
 | .own i=>if Nat.beq i id then .e e else .own i
 |p=>if p.qB.any (Nat.beq id)then .e .any else p
def PS.xz(σ:PS)(id:Nat)(e:E):PS:={ σ with t:=σ.t.map λx=>(x.1,x.2.xz id e),b:=σ.b.filter λx=>!Nat.beq x.1 id }
def Bx.as:Bx->Option E
 | .row nl _ n sz el=>some (.sl nl n sz el)
 | .jm nl _ _ n sz len el none=>some (.sl true n 1 λk _=>.sl nl (len k) sz (el k))
 |_=>none
def PS.le.freeze{σ:PS}(id:Nat){b:Bx}{e:E}(kp:σ.bo id=some b)(he:b.as=some e):PS.le σ (σ.xz id e):=λw0 B a w L hB r=>by
 let L':Lk:=⟨λi=>L.oh i/\i≠id,λi x=>L.own i x/\i≠id,L.val,L.jI⟩
 have iO:su L w L' w:=⟨bp _,λx _ ⟨i,h,_⟩=>⟨i,h⟩,λ_ _ _=>rfl⟩
 have wH:∀ i,(σ.xz id e).bo i=if i=id then none else σ.bo i:=by
  intro i;unfold PS.bo PS.xz;by_cases h:i=id
  .subst h;simp only[bN];exact VZ _ _
  .rw [bl h];exact Fm _ _ _ (λe=>h e.symm)
 have tq:∀ x,L.own id x->¬jM B L' x:=by
  rintro x hx (h|⟨i,h1,h2⟩)
  .have:=hB x h;have:=(r.hw id x hx).1;omega
  .exact h2 (r.hi i id x h1 hx)
 have own:∀ (v:Value) (T:TypeId) (n sz:Nat) (f:Nat->Nat->Value) (nl:Bool) (el:Nat->Nat->E),qo w v T n sz f nl->(∀ x,v.ownBlock=some x->L.own id x) ->
  (∀ i j,i<n->j<sz->iR (jM B L) (ky L) w (el i j) (f i j)/\(el i j).nr 2=true)->iR (jM B L') (ky L') w (.sl nl n sz el) v:=by
  intro v T n sz f nl el h1 h2 h3;rcases h1 with⟨rfl,rfl⟩|⟨b,c,cur,rfl,hg,pM,nS,oR,mf,ku⟩
  .exact .sl nl 0 sz el none 0 f (bp _) aF (λ_=>rfl) (λi j hi=>absurd hi (bO i)) (λi j hi=>absurd hi (bO i)) (λi j hi=>absurd hi (bO i)) (λi j hi=>absurd hi (bO i))
  .have rD:=h2 b rfl;refine .sl nl n sz el _ c f pM (by unfold maxLen at nS;omega) (λh=>by cases h) (λi j hi hj=>⟨(mf i j hi hj).2,λhn=>ku hn _ (eu (mf i j hi hj).1)⟩) (λi j hi hj=>(h3 i j hi hj).2)
    (λi j hi hj=>⟨b,0,rfl,tq b rD,(r.hw id b rD).2,?_⟩) (λi j hi hj=>iO.lG (h3 i j hi hj).1)
   rw[b6];simp only[World.cell?,hg];simpa using(mf i j hi hj).1
 have hold:∀ v,v=L.val id->iR (jM B L') (ky L') w e v:=by
  rintro v rfl;have Ik:=r.hb id b kp;cases b with
  |cells T l=>cases he
  |row nl T n sz el=>
   cases he;obtain⟨f,h1,h2,h3⟩:=Ik;exact own _ T n sz f nl el h1 (λx hx=>(h2 x).2 hx) h3
  |jm nl T1 T0 n sz len el pend=>
   cases pend with
   |some k=>cases he
   |none=>
    cases he;obtain⟨b,c,cur,f,h1,h2,h3,h4,h5,h6,h7,h8,h9,rY,vn⟩:=Ik;have rD:L.own id b:=(h9 b).2 (.inl rfl);rw[h1];refine .sl true n 1 _ _ c (λk _=>L.jI id k) h3 (by unfold maxLen at h4;omega) (λh=>by cases h) (λk j hk hj=>?_) (λk j hk hj=>rfl)
     (λk j hk hj=>⟨b,0,rfl,tq b rD,(r.hw id b rD).2,?_⟩) (λk j hk hj=>own _ T0 (len k) sz (f k) nl (el k) (h8 k hk).1 (λx hx=>(h9 x).2 (.inr ⟨k,hk,hx⟩)) (h8 k hk).2)
    .obtain ⟨q1,q2⟩:=h7 _ (eu (h6 k hk aJ));exact⟨q1,λ_=>q2⟩
    .rw [b6,cg];obtain rfl:j=0:= aD ;simp only[World.cell?,h2];simpa using h6 k hk aJ 
 refine⟨L',r.hd,r.hs,λt=>?_,λi b' h=>?_,λi=>?_,λi x h=>⟨r.hn i x h.1,h.2⟩,λi x h=>r.hw i x h.1,λi i' x h k=>r.hi i i' x h.1 k.1,r.he,λh i b' k=>?_⟩
 .have hg:(σ.xz id e).get t=(σ.get t).xz id e:=by
   unfold PS.get PS.xz;rw[V0];cases look σ.t t<;>rfl
  rw[hg];have k:=r.ht t;generalize σ.get t=p at k;have move:∀ (p:PV) (v:Value),nJ (jM B L) (ky L) L w p v->(p.qB.any (Nat.beq id))=false->nJ (jM B L') (ky L') L' w p v:=by
   intro p v k hp;refine nJ.move iO k λi hi vr=>⟨⟨vr,?_⟩,rfl,λ_=>rfl⟩
   rintro rfl;have:=dP.1 hp i hi;simp at this
  have gen:∀ (p:PV) (v:Value),nJ (jM B L) (ky L) L w p v->nJ (jM B L') (ky L') L' w (if p.qB.any (Nat.beq id)then .e .any else p) v:=by
   intro p v k;cases hp:p.qB.any (Nat.beq id)with
   |true=>exact .any _
   |false=>exact move p v k hp
  cases p with
  |own i=>
   simp only[PV.xz];by_cases hi:i=id
   .subst hi;rw[en,bn rfl];exact hold _ k.2
   .rw [eo hi,bl aF];exact⟨⟨k.1,hi⟩,k.2⟩
  |_=>exact gen _ _ k
 .rw [wH]at h;split at h
  .cases h
  .rename_i hi;exact(r.hb i b' h).later iO rfl (λx=>⟨λq=>q.1,λq=>⟨q,hi⟩⟩) (λ_=>rfl) λ_ _=>rfl
 .rw [wH];show L.oh i/\i≠id↔_;by_cases hi:i=id
  .subst hi;simp
  .simp only[hi,dp,fi,and_true,bF];exact r.hv i
 .rw [wH]at k;split at k
  .cases k
  .exact r.hl h i b' k
def PS.Ci(σ:PS)(t id:Nat)(b:Bx):PS:={ σ with t:=(t,.own id)::σ.t.filter (λx=>!Nat.beq x.1 t),b:=(id,b)::σ.b }
def PS.le.Z6{σ:PS}(t id:Nat){nl:Bool}{T:TypeId}{sz:Nat}{el:Nat->Nat->E}(kp:σ.bo id=none)(hg:σ.get t = .e (.v (.slice none 0 0)))(ku:σ.nl=true->nl=true):PS.le σ (σ.Ci t id (.row nl T 0 sz el)):=λw0 B a w L hB r=>by
 have vq:¬L.oh id:=λh=>by have:=(r.hv id).1 h;rw[kp]at this;cases this
 let L':Lk:=⟨λi=>L.oh i\/i=id,L.own,λi=>if i=id then .slice none 0 0 else L.val i,L.jI⟩
 have iO:su L w L' w:=⟨bp _,λx _ h=>h,λ_ _ _=>rfl⟩
 have wH:∀ i,(σ.Ci t id (.row nl T 0 sz el)).bo i=if i=id then some (.row nl T 0 sz el)else σ.bo i:=by
  intro i;unfold PS.bo PS.Ci;rw[tH];by_cases h:id=i
  .rw [bn h,bn h.symm]
  .rw [bl h,bl (λe=>h e.symm)]
 have hv:a.tmps.getD t undef = .slice none 0 0:=by
  have:=r.ht t;rw[hg]at this;exact iR.kN this
 refine⟨L',r.hd,r.hs,λs=>?_,λi b' h=>?_,λi=>?_,λi x h=>.inl (r.hn i x h),r.hw,r.hi,r.he,λh i b' k=>?_⟩
 .have hgs:(σ.Ci t id (.row nl T 0 sz el)).get s=if t=s then .own id else σ.get s:=by
   unfold PS.get PS.Ci;simp only[tH];by_cases h:t=s
   .rw [bn h,bn h];rfl
   .rw [bl h,bl h,Fm _ _ _ h]
  rw[hgs];by_cases h:t=s
  .subst h;rw[bn rfl,hv];exact⟨.inr rfl,(bn rfl).symm⟩
  .rw [bl h];refine nJ.move iO (r.ht s) λi _ vr=>⟨.inl vr,bl (λ(q:i=id)=>vq (q▸vr)),λ_=>rfl⟩
 .rw [wH]at h;split at h
  .rename_i hi;subst hi;cases h;refine⟨λ_ _=>undef,.inl ⟨bn rfl,rfl⟩,λx=>⟨λq=>absurd (r.hn _ _ q) vq,λq=>?_⟩,λi j hi=>absurd hi (bO i)⟩;have e1:L'.val i = .slice none 0 0:=bn rfl;rw[e1]at q;cases q
  .rename_i hi;exact(r.hb i b' h).later iO (bl hi) (λ_=>Iff.rfl) (λ_=>rfl) λ_ _=>rfl
 .rw [wH];show L.oh i\/i=id↔_;by_cases hi:i=id
  .subst hi;simp
  .simp only[hi,gx,bF];exact r.hv i
 .rw [wH]at k;split at k
  .cases k;exact ku h
  .exact r.hl h i b' k
end Go.Proofs.YtbhhompalmdaiaaGreatDoor.Pu
namespace Go.Proofs.YtbhhompalmdaiaaGreatDoor.Fp
def mX(x i:Nat)(b o:List Nat):Nat->List Nat×Nat
 | 0=>(o,0)
 |k+1=>
  let r:=mX x i b o k
  let z:=x*b.getD k 0+r.1.getD (i+k) 0+r.2
  (r.1.set (i+k) (z%4294967296),z/4294967296)
def lU(a b:List Nat):Nat->List Nat
 | 0=>List.replicate (a.length+b.length) 0
 |i+1=>
  let r:=mX (a.getD i 0) i b (lU a b i) b.length
  r.1.set (i+b.length) (r.2%4294967296)
def Wx{x y:Nat}(hx:x<4294967296)(hy:y<4294967296):x*y<=18446744065119617025:=by
 have:=dA (aD:x<=4294967295) (aD:y<=4294967295);omega
def yh{L:List Nat}{k x:Nat}(hk:k<L.length):val (L.set k x)+4294967296^k*L.getD k 0=val L+4294967296^k*x:=by
 have:=PH (x:=x) hk;rwa[bu,bD hk]
def vi{L:List Nat}{k j x:Nat}(h:k≠j):(L.set k x).getD j 0=L.getD j 0:=by
 simp only[bu,ia h]
def LN{L:List Nat}{k x:Nat}(h:k<L.length):(L.set k x).getD k 0=x:=by
 simp[bu,h]
structure ZQ(x i:Nat)(b o:List Nat)(k:Nat)(r:List Nat×Nat):Prop where
 ok:iK r.1
 len:r.1.length=o.length
 lt:r.2<4294967296
 eq:val r.1+4294967296^(i+k)*r.2=val o+4294967296^i*(x*val (b.take k))
 pV:∀ j,i+k<=j->r.1.getD j 0=o.getD j 0
def FA{x i:Nat}{b o:List Nat}(hx:x<4294967296)(hb:iK b)(ho:iK o)(hl:i+b.length<=o.length):∀ k,k<=b.length->ZQ x i b o k (mX x i b o k)
 | 0,_=>⟨ho,rfl,ann _,by simp[mX,val],λ_ _=>rfl⟩
 |k+1,hk=>by
  obtain⟨h1,h2,h3,h4,h5⟩:=FA hx hb ho hl k aD;have hy:=hb.getD k;have hw:=h1.getD (i+k);have hm:=Wx hx hy;have hv:=uL b k;simp only[mX];generalize mX x i b o k=r at *
  generalize hz:x*b.getD k 0+r.1.getD (i+k) 0+r.2=z;have ur:=yh (L:=r.1) (k:=i+k) (x:=z%4294967296) aD;refine⟨h1.set _ (bC _ aF),by simpa using h2,by show z/4294967296<_;omega,?_,λj hj=>?_⟩
  .have e1:z=z%4294967296+4294967296*(z/4294967296):=(ef z _).symm;show val (r.1.set (i+k) (z%4294967296))+4294967296^(i+(k+1))*(z/4294967296)=_;rw[hv,bM x,bM (4294967296^i),<-dh (val o),<-h4];have e2:4294967296^(i+(k+1))*(z/4294967296)=4294967296^(i+k)*(4294967296*(z/4294967296)):=by rw[(aD:i+(k+1)=(i+k)+1),bG,bB]
   have e3:4294967296^i*(x*(4294967296^k*b.getD k 0))=4294967296^(i+k)*(x*b.getD k 0):=by rw[bw];simp only[bB,dt]
   rw[e2,e3];have e4:4294967296^(i+k)*z=4294967296^(i+k)*(x*b.getD k 0)+4294967296^(i+k)*r.1.getD (i+k) 0+4294967296^(i+k)*r.2:=by rw[<-hz,bM,bM]
   have e5:4294967296^(i+k)*z=4294967296^(i+k)*(z%4294967296)+4294967296^(i+k)*(4294967296*(z/4294967296)):=by rw[<-bM,<-e1]
   omega
  .show (r.1.set (i+k) _).getD j 0=_;rw[vi aD,h5 j aD]
structure ZR(a b:List Nat)(i:Nat)(o:List Nat):Prop where
 ok:iK o
 len:o.length=a.length+b.length
 eq:val o=val (a.take i)*val b
 zero:∀ j,i+b.length<=j->o.getD j 0=0
def FB{a b:List Nat}(ha:iK a)(hb:iK b):∀ i,i<=a.length->ZR a b i (lU a b i)
 | 0,_=>⟨iK.BT _,by simp[lU],by simp[lU,zz,val],λj _=>by
  by_cases h:j<a.length+b.length<;>simp[lU,bu,gv,h]⟩
 |i+1,hi=>by
  obtain⟨h1,h2,h3,h4⟩:=FB ha hb i aD;obtain⟨q1,q2,q3,q4,q5⟩:=FA (ha.getD i) hb h1 (i:=i) aD b.length (bp _);have hv:=uL a i;simp only[lU];generalize mX (a.getD i 0) i b (lU a b i) b.length=r at *
  have ur:=yh (L:=r.1) (k:=i+b.length) (x:=r.2%4294967296) aD;rw[q5 _ (bp _),h4 _ (bp _),cQ,bK,bQ q3,q4,fL,h3]at ur;refine⟨q1.set _ (bC _ aF),aR,?_,λj hj=>?_⟩
  .rw [bQ q3,ur,hv,b8,bB]
  .rw [vi aD,q5 _ aD,h4 _ aD]
def al6{a b:List Nat}(ha:iK a)(hb:iK b):val (lU a b a.length)=val a*val b:=by
 have:=(FB ha hb a.length (bp _)).eq;rwa[fL]at this
end Go.Proofs.YtbhhompalmdaiaaGreatDoor.Fp
namespace Go.Proofs.YtbhhompalmdaiaaGreatDoor
open Go.RowKit Fp Pu
abbrev jl(L:List Nat):Nat->Nat->E:=λi _=>.v (.int .u32 (L.getD i 0:Int))
def sr(n:Nat):IntKind.u32.wrap (n:Int)=((n%4294967296:Nat):Int):=by rw[IntKind.wrap_u32];omega
def E3(n:Nat)(h:n<9223372036854775808):IntKind.i64.wrap (n:Int)=n:=by rw[IntKind.wrap_i64];omega
def zo(n:Nat):(n:Int)/2^32=((n/4294967296:Nat):Int):= aD 
def zp(n k:Nat):(n:Int)/2^k=((n/2^k:Nat):Int):=by rw[Int.natCast_ediv,Int.natCast_pow];rfl
def zr{L:List Nat}{n:Nat}(h:n=L.length):E.le (.sl false n 1 (jl L)) (iw L):=by subst h;exact .refl _
def F3{T n n':Nat}{L:List Nat}(hn:n=n')(h:∀ i,L.getD i 0=0):Bx.le (.row false T n 1 λ_ j=>[.v (.int .u32 0)].getD j .any) (.row false T n' 1 (jl L)):=
 .row hn λi j _ hj=>by
  obtain rfl:j=0:= aD ;refine⟨.jb ?_,rfl⟩;show E.v (.int .u32 0)=E.v (.int .u32 (L.getD i 0:Int));rw[h i];rfl
def O8{T n n' p:Nat}{L:List Nat}{z:Nat}(hn:n=n')(hp:p<L.length):Bx.le (.row false T n 1 λi' j'=>if i'=p/\0<=j'/\j'<0+1 then[.v (.int .u32 (z:Int))].getD (j'-0) .any else(jl L) i' j') (.row false T n' 1 (jl (L.set p z))):=
 .row hn λi j _ hj=>by
  obtain rfl:j=0:= aD ;refine⟨.jb ?_,rfl⟩;by_cases h:i=p
  .subst h;rw[bn ⟨rfl,aD,aD⟩];show E.v (.int .u32 (z:Int))=E.v (.int .u32 (((L.set i z).getD i 0:Nat):Int));rw[Fp.LN hp]
  .rw [bl (λq=>h q.1)];show E.v (.int .u32 (L.getD i 0:Int))=E.v (.int .u32 (((L.set p z).getD i 0:Nat):Int));rw[Fp.vi (λq=>h q.symm)]
def Ye{k l:IntKind}{a b c d:Int}(h:a=b)(h':c=d):Ending.returned (.tuple #[.int k a,.int l c]) = .returned (.tuple #[.int k b,.int l d]):=by rw[h,h']
def DP(x y c:Nat)(w:World)(hx:x<4294967296)(hy:y<4294967296)(hc:c<=1):
 Calls prog 324 #[.int .u32 x,.int .u32 y,.int .u32 c] w λe w'=>e = .returned (.tuple #[.int .u32 (((x+y+c)%4294967296:Nat):Int),.int .u32 (((x+y+c)/4294967296:Nat):Int)])/\w=w':=by
 go_enter func324,ntmps324;go_wp2;go_ret2;refine⟨?_,rfl⟩;exact Ye aD aD 
def Gg(a b:Nat)(ha:a<4294967296)(hb:b<4294967296):bits .or .u32 (a:Int) (b:Int)=((a |||b:Nat):Int):=by
 have h2:a |||b<2^32:=anj ha hb
 show IntKind.u32.wrap ((BitVec.ofInt 32 (a:Int) |||BitVec.ofInt 32 (b:Int)).toNat:Int)=_;rw[BitVec.toNat_or,fM,fM];rw[show((a:Int)%((2^32:Nat):Int)).toNat=a by omega,show((b:Int)%((2^32:Nat):Int)).toNat=b by omega];rw[IntKind.wrap_u32];omega
def Zx(a b:Nat)(ha:a<4294967296)(hb:b<4294967296):bits .and .u32 (a:Int) (b:Int)=((a &&& b:Nat):Int):=by
 have h2:a &&& b<2^32:=fJ a hb;show IntKind.u32.wrap ((BitVec.ofInt 32 (a:Int) &&& BitVec.ofInt 32 (b:Int)).toNat:Int)=_;rw[BitVec.toNat_and,fM,fM];rw[show((a:Int)%((2^32:Nat):Int)).toNat=a by omega,show((b:Int)%((2^32:Nat):Int)).toNat=b by omega];rw[IntKind.wrap_u32];omega
def PE(a b:Nat)(ha:a<4294967296)(hb:b<4294967296):bits .xor .u32 (a:Int) (b:Int)=((a ^^^ b:Nat):Int):=by
 have h2:a ^^^ b<2^32:=fl ha hb;show IntKind.u32.wrap ((BitVec.ofInt 32 (a:Int) ^^^ BitVec.ofInt 32 (b:Int)).toNat:Int)=_;rw[BitVec.toNat_xor,fM,fM];rw[show((a:Int)%((2^32:Nat):Int)).toNat=a by omega,show((b:Int)%((2^32:Nat):Int)).toNat=b by omega];rw[IntKind.wrap_u32];omega
def Ka(n:Nat)(h:n<4294967296):n/2147483648=(n.testBit 31).toNat:=by
 rw[Nat.testBit_eq_decide_div_mod_eq,show(2:Nat)^31=2147483648 from rfl];have h2:n/2147483648<2:= aD ;generalize n/2147483648=q at *
 have:q=0\/q=1:= aD ;rcases this with rfl|rfl<;>rfl
def alb(x y c d:Nat)(hx:x<4294967296)(hy:y<4294967296)(hc:c<=1)(hd:d=(x+(4294967296-y)+(4294967296-c))%4294967296):
 (((4294967295 ^^^ x) &&& y) ||| ((4294967295 ^^^ (x ^^^ y)) &&& d))/2147483648=if x<y+c then 1 else 0:=by
 have Ey:d<4294967296:= aD ;have h1:4294967295 ^^^ x<2^32:=fl aF hx;have h2:x ^^^ y<2^32:=fl hx hy;have h3:4294967295 ^^^ (x ^^^ y)<2^32:=fl aF h2;have h4:(4294967295 ^^^ x) &&& y<2^32:=fJ _ hy;have h5:(4294967295 ^^^ (x ^^^ y)) &&& d<2^32:=fJ _ Ey;rw[Ka _ (anj h4 h5)];have tx:=Ka x hx;have ty:=Ka y hy;have td:=Ka d Ey;rw[Nat.testBit_or,Nat.testBit_and,Nat.testBit_and,ano,ano,ano,show(4294967295:Nat).testBit 31=true by decide];clear h1 h2 h3 h4 h5;generalize x.testBit 31=p at *
 generalize y.testBit 31=q at *
 generalize d.testBit 31=r at *
 cases p<;>cases q<;>cases r<;>simp at tx ty td ⊢ <;> omega
def AY(x y c:Nat):Nat:=if x<y+c then 1 else 0
def xw(x y c:Nat):Nat:=(x+(4294967296-y)+(4294967296-c))%4294967296
def D7(x y c:Nat)(hx:x<4294967296)(hy:y<4294967296)(hc:c<=1):xw x y c+y+c=x+4294967296*AY x y c/\AY x y c<=1/\xw x y c<4294967296:=by
 unfold xw AY;split<;>omega
def YY(x y c:Nat)(w:World)(hx:x<4294967296)(hy:y<4294967296)(hc:c<=1):
 Calls prog 326 #[.int .u32 x,.int .u32 y,.int .u32 c] w λe w'=>e = .returned (.tuple #[.int .u32 (xw x y c:Nat),.int .u32 (AY x y c:Nat)])/\w=w':=by
 go_enter func326,ntmps326;go_wp2;go_ret2;refine⟨?_,rfl⟩;have hd:((x:Int)-y-c)%4294967296=(xw x y c:Int):=by unfold xw;omega
 have hb:=alb x y c (xw x y c) hx hy hc rfl;have hl:=(D7 x y c hx hy hc).2.2;have em:IntKind.u32.max=((4294967295:Nat):Int):=rfl;refine Ye hd ?_;rw[hd,em,PE _ _ aF hx,PE _ _ hx hy];have h1:4294967295 ^^^ x<2^32:=fl aF hx;have h2:x ^^^ y<2^32:=fl hx hy;have h3:4294967295 ^^^ (x ^^^ y)<2^32:=fl aF h2;rw[PE _ _ aF h2,Zx _ _ h1 hy,Zx _ _ h3 hl];have h4:(4294967295 ^^^ x) &&& y<2^32:=fJ _ hy;have h5:(4294967295 ^^^ (x ^^^ y)) &&& xw x y c<2^32:=fJ _ hl;rw[Gg _ _ h4 h5];unfold AY;rw[<-hb];omega
def Qh{O:List Nat}{k c x y P Q P' Q':Nat}(ho:O[k]? = some 0)(h:val O+4294967296^k*c=P+Q)
 (hP:P'=P+4294967296^k*x) (hQ:Q'=Q+4294967296^k*y):
 val (O.set k ((x+y+c)%4294967296))+4294967296^(k+1)*((x+y+c)/4294967296)=P'+Q':=by
 have h1:=NK (a:=1) (b:=x+y) (c:=c) ho;rw[ck,bK]at h1;rw[h1,h,hP,hQ,bM];omega
def Y2{O:List Nat}{k c x y d c' P Q P' Q':Nat}(ho:O[k]? = some 0)(h:val O+Q=P+4294967296^k*c)
 (hP:P'=P+4294967296^k*x) (hQ:Q'=Q+4294967296^k*y) (hd:d+y+c=x+4294967296*c'):
 val (O.set k d)+Q'=P'+4294967296^(k+1)*c':=by
 obtain⟨hk,h0⟩:=cC.1 ho;have h1:=PH (x:=d) hk;rw[h0,cQ,bK]at h1;have e:=congrArg (4294967296^k * ·) hd;simp only[bM,<-bB]at e;rw[bG,h1,hP,hQ];omega
def tS(O:List Nat)(k:Nat):Prop:=∀ j,k<=j->j<O.length->O[j]? = some 0
def tS.at{O:List Nat}{k:Nat}(h:tS O k)(hk:k<O.length):O[k]? = some 0:=h k (bp _) hk
def tS.set{O:List Nat}{k:Nat}(h:tS O k)(v:Nat):tS (O.set k v) (k+1):=λj h1 h2=>by
 rw[ia aD];exact h j aD (by simpa using h2)
def tS.PO(n:Nat):tS (List.replicate n 0) 0:=λj _ h=>by
 rw[gv];rw[bn (by simpa using h)]
def Kz(w:World)(v n:Nat)(e:Ending)(w':World):Prop:=∃ T,val T=v/\iK T/\T.length=n/\sR w T e w'
def P4(w:World)(v n:Nat)(e:Ending)(w':World):Prop:=∃ T,val T=v/\iK T/\T.length<=n/\sR w T e w'
def ahm(A B:Option Addr)(c d:Nat)(L M:List Nat)(w:World)(hs:Sl w A c L)(hr:Sl w B d M)(h1:L.length<=3000)(_h2:M.length<=3000)(hc:M.length<=L.length):
 Calls prog 297 #[.slice A L.length c,.slice B M.length d] w (Kz w (val L+val M) (L.length+1)):=by
 obtain⟨l,hl⟩:∃ l,l=L.length:=⟨_,rfl⟩
 obtain⟨m,hm⟩:∃ m,m=M.length:=⟨_,rfl⟩
 rw[<-hl,<-hm]at hc;rw[<-hl]at h1;rw[<-hm]at _h2;have HL:=anQ hl;have HM:=anQ hm;rw[<-hl,<-hm];clear hl hm;have d0:decide ((l:Int)<m)=false:=bt aD;have d1:decide (l<m)=false:=bt aD;have oV:=C5 (l+1) aD;rw[show((l+1:Nat):Int)=l+1 by omega]at oV;have sW:=anQ (Rw.xR w (l+1));go_enter func297,ntmps297;go_wp2;go_loopw [6,7,8,9,23] (λcy _ _ _ i wr=>∃ (k q:Nat) (O:List Nat),k<=l/\i = .int .i64 k/\cy = .int .u32 q/\q<=1/\O.length=l+1/\iK O/\tS O k/\val O+4294967296^k*q=val (L.take k)+val (M.take k)/\Rw wr w.heap.size O/\iG w wr) (λ_ _ _ _ i _=>l-(intOf i).toNat)
 case atStart=>
  exact⟨0,0,List.replicate (l+1) 0,ch _,rfl,rfl,aF,aJ,iK.BT _,tS.PO _,by simp[zz],sW.out,iG.alloc _ _⟩
 case round=>
  obtain⟨k,q,O,hk,rfl,rfl,hq,hO,lg,hz,lr,hR,hb⟩:=hrel;have HV:=anQ lr;have HO:=anQ hO;clear lr hO;have HZ:=anQ hz;clear hz;by_cases iO:k<l
  .have tw:k<L.length:=by have:=HL.out;omega
   obtain⟨ab,ao,e1,_,c1⟩:=(hs.below hb).lL tw;have mJ:L[k]<4294967296:=hs.ok.get tw;have ho:=HZ.out.at (by have:=HO.out;omega)
   have c4:=hR.frozen k;have Im:=hR.cell ho;have HT:=anQ (yi L k tw);have HY:=anQ (uL M k);have ph:M.getD k 0<4294967296:=hr.ok.getD k;have HYc:=anQ (λ(h:k<M.length)=>(hr.below hb).lL h);have HYg:=anQ (λ(h:k<M.length)=>zQ h);have HYn:=anQ (λ(h:¬k<M.length)=>CB h);have HX:=anQ (rfl:L[k]=L[k]);obtain⟨a,ha⟩:∃ a,a=L[k]:=⟨_,rfl⟩
   rw[<-ha]at c1 mJ HT;clear ha HX tw;have HS:=anQ (Qh ho HV.out HT.out HY.out);have HN:=anQ (λv=>HZ.out.set v);have HOK:=anQ (λv=>lg.JY k v);have HR2:=anQ (λv:Nat=>hR.set k v);have HE2:=anQ (λv:Value=>hb.setCell (p:=⟨w.heap.size,k,none⟩) (bp _) v);clear ho hR hb lg;subst e1;by_cases Vf:k<m
   .have wN:k<M.length:=by have:=HM.out;omega
    obtain⟨bb,bo,e2,_,c2⟩:=HYc.out wN;subst e2;rw[<-HYg.out wN]at c2;generalize M.getD k 0=b at *
    clear HYc HYg HYn wN;have HA:=anQ (λw=>DP a b q w mJ ph hq);go_wp2_with fail;refine(HA.out _).mono ?_;rintro e w1 ⟨rfl,rfl⟩;go_wp2;go_roundw
    case rel=>
     exact⟨k+1,(a+b+q)/4294967296,O.set k ((a+b+q)%4294967296),aD,by go_num,rfl,aD,by rw[cS];exact HO.out,HOK.out _,HN.out _,HS.out,HR2.out _,HE2.out _⟩
    case measure=>simp[intOf];omega
   .rw [HYn.out (by have:=HM.out;omega)]at HS;clear HYc HYg HYn ph HY;have HA:=anQ (λw=>DP a 0 q w mJ aF hq);go_wp2_with fail;refine(HA.out _).mono ?_;rintro e w1 ⟨rfl,rfl⟩;go_wp2;go_roundw
    case rel=>
     exact⟨k+1,(a+0+q)/4294967296,O.set k ((a+0+q)%4294967296),aD,by go_num,rfl,aD,by rw[cS];exact HO.out,HOK.out _,HN.out _,HS.out,HR2.out _,HE2.out _⟩
    case measure=>simp[intOf];omega
  .obtain rfl:k=l:= aD ;have ho:=HZ.out.at (by have:=HO.out;omega)
   have c4:=hR.frozen k;have Im:=hR.cell ho;have HF:=anQ (show val (O.set k q)=val L+val M by
    have h:=KX (c:=q) ho;rw[b6,bQ aD,cA aD,cQ,bK,HV.out,show L.take k=L from cP (by rw[HL.out];exact bp _),show M.take k=M from cP (by rw[<-HM.out];omega)]at h;omega)
   have HLn:=anQ (show(O.set k q).length=k+1 by rw[cS];exact HO.out);have HOK:Hid (iK (O.set k q)):=lg.set k aD;have HR2:=anQ (hR.set k q);have HE2:=anQ (λv:Value=>hb.setCell (p:=⟨w.heap.size,k,none⟩) (bp _) v);clear ho hR hb lg;go_wp2;go_ret;have yS:=HR2.out.sl HOK.out (by rw[HLn.out];omega);rw[HLn.out]at yS;exact⟨_,HF.out,HOK.out,HLn.out,_,_,(by rw[HLn.out];rfl),yS,HE2.out _⟩
def ahn(A B:Option Addr)(c d:Nat)(L M:List Nat)(w:World)(hs:Sl w A c L)(hr:Sl w B d M)(h1:L.length<=3000)(h2:M.length<=3000)(hc:L.length<M.length):
 Calls prog 297 #[.slice A L.length c,.slice B M.length d] w (Kz w (val L+val M) (M.length+1)):=by
 obtain⟨l,hl⟩:∃ l,l=L.length:=⟨_,rfl⟩
 obtain⟨m,hm⟩:∃ m,m=M.length:=⟨_,rfl⟩
 rw[<-hl,<-hm]at hc;rw[<-hl]at h1;rw[<-hm]at h2;have HL:=anQ hl;have HM:=anQ hm;rw[<-hl,<-hm];clear hl hm;have d0:decide ((l:Int)<m)=true:=bq aD;have d1:decide (l<m)=true:=bq aD;have oV:=C5 (m+1) aD;rw[show((m+1:Nat):Int)=m+1 by omega]at oV;have sW:=anQ (Rw.xR w (m+1));go_enter func297,ntmps297;go_wp2;go_loopw [6,7,8,9,23] (λcy _ _ _ i wr=>∃ (k q:Nat) (O:List Nat),k<=m/\i = .int .i64 k/\cy = .int .u32 q/\q<=1/\O.length=m+1/\iK O/\tS O k/\val O+4294967296^k*q=val (M.take k)+val (L.take k)/\Rw wr w.heap.size O/\iG w wr) (λ_ _ _ _ i _=>m-(intOf i).toNat)
 case atStart=>
  exact⟨0,0,List.replicate (m+1) 0,ch _,rfl,rfl,aF,aJ,iK.BT _,tS.PO _,by simp[zz],sW.out,iG.alloc _ _⟩
 case round=>
  obtain⟨k,q,O,hk,rfl,rfl,hq,hO,lg,hz,lr,hR,hb⟩:=hrel;have HV:=anQ lr;have HO:=anQ hO;clear lr hO;have HZ:=anQ hz;clear hz;by_cases iO:k<m
  .have tw:k<M.length:=by have:=HM.out;omega
   obtain⟨ab,ao,e1,_,c1⟩:=(hr.below hb).lL tw;have mJ:M[k]<4294967296:=hr.ok.get tw;have ho:=HZ.out.at (by have:=HO.out;omega)
   have c4:=hR.frozen k;have Im:=hR.cell ho;have HT:=anQ (yi M k tw);have HY:=anQ (uL L k);have ph:L.getD k 0<4294967296:=hs.ok.getD k;have HYc:=anQ (λ(h:k<L.length)=>(hs.below hb).lL h);have HYg:=anQ (λ(h:k<L.length)=>zQ h);have HYn:=anQ (λ(h:¬k<L.length)=>CB h);have HX:=anQ (rfl:M[k]=M[k]);obtain⟨a,ha⟩:∃ a,a=M[k]:=⟨_,rfl⟩
   rw[<-ha]at c1 mJ HT;clear ha HX tw;have HS:=anQ (Qh ho HV.out HT.out HY.out);have HN:=anQ (λv=>HZ.out.set v);have HOK:=anQ (λv=>lg.JY k v);have HR2:=anQ (λv:Nat=>hR.set k v);have HE2:=anQ (λv:Value=>hb.setCell (p:=⟨w.heap.size,k,none⟩) (bp _) v);clear ho hR hb lg;subst e1;by_cases Vf:k<l
   .have wN:k<L.length:=by have:=HL.out;omega
    obtain⟨bb,bo,e2,_,c2⟩:=HYc.out wN;subst e2;rw[<-HYg.out wN]at c2;generalize L.getD k 0=b at *
    clear HYc HYg HYn wN;have HA:=anQ (λw=>DP a b q w mJ ph hq);go_wp2_with fail;refine(HA.out _).mono ?_;rintro e w1 ⟨rfl,rfl⟩;go_wp2;go_roundw
    case rel=>
     exact⟨k+1,(a+b+q)/4294967296,O.set k ((a+b+q)%4294967296),aD,by go_num,rfl,aD,by rw[cS];exact HO.out,HOK.out _,HN.out _,HS.out,HR2.out _,HE2.out _⟩
    case measure=>simp[intOf];omega
   .rw [HYn.out (by have:=HL.out;omega)]at HS;clear HYc HYg HYn ph HY;have HA:=anQ (λw=>DP a 0 q w mJ aF hq);go_wp2_with fail;refine(HA.out _).mono ?_;rintro e w1 ⟨rfl,rfl⟩;go_wp2;go_roundw
    case rel=>
     exact⟨k+1,(a+0+q)/4294967296,O.set k ((a+0+q)%4294967296),aD,by go_num,rfl,aD,by rw[cS];exact HO.out,HOK.out _,HN.out _,HS.out,HR2.out _,HE2.out _⟩
    case measure=>simp[intOf];omega
  .obtain rfl:k=m:= aD ;have ho:=HZ.out.at (by have:=HO.out;omega)
   have c4:=hR.frozen k;have Im:=hR.cell ho;have HF:=anQ (show val (O.set k q)=val L+val M by
    have h:=KX (c:=q) ho;rw[b6,bQ aD,cA aD,cQ,bK,HV.out,show M.take k=M from cP (by rw[HM.out];exact bp _),show L.take k=L from cP (by rw[<-HL.out];omega)]at h;omega)
   have HLn:=anQ (show(O.set k q).length=k+1 by rw[cS];exact HO.out);have HOK:Hid (iK (O.set k q)):=lg.set k aD;have HR2:=anQ (hR.set k q);have HE2:=anQ (λv:Value=>hb.setCell (p:=⟨w.heap.size,k,none⟩) (bp _) v);clear ho hR hb lg;go_wp2;go_ret;have yS:=HR2.out.sl HOK.out (by rw[HLn.out];omega);rw[HLn.out]at yS;exact⟨_,HF.out,HOK.out,HLn.out,_,_,(by rw[HLn.out];rfl),yS,HE2.out _⟩
def ahl(A B:Option Addr)(c d:Nat)(L M:List Nat)(w:World)(hs:Sl w A c L)(hr:Sl w B d M)(h1:L.length<=3000)(h2:M.length<=3000):
 Calls prog 297 #[.slice A L.length c,.slice B M.length d] w (Kz w (val L+val M) (max L.length M.length+1)):=by
 by_cases hc:M.length<=L.length
 .rw [Nat.max_eq_left hc];exact ahm A B c d L M w hs hr h1 h2 hc
 .rw [Nat.max_eq_right aD];exact ahn A B c d L M w hs hr h1 h2 aD 
def ahk(A B:Option Addr)(c d:Nat)(L M:List Nat)(w:World)(hs:Sl w A c L)(hr:Sl w B d M)(h1:L.length<=3000)(h2:M.length<=3000):
 Calls prog 297 #[.slice A L.length c,.slice B M.length d] w (P4 w (val L+val M) (max L.length M.length+1)):=
 (ahl A B c d L M w hs hr h1 h2).mono λ_ _ ⟨T,a,b,c,d⟩=>⟨T,a,b,ib c,d⟩
def ahp(A B:Option Addr)(c d:Nat)(L M:List Nat)(w:World)(um:Sl w A c L)(uk:Sl w B d M)(h1:L.length<=3000)(_h2:M.length<=3000)(hle:val M<=val L):
 Calls prog 298 #[.slice A L.length c,.slice B M.length d] w (P4 w (val L-val M) L.length):=by
 have Mb:=anQ (λw (h:Sl w A c L)=>uD A c L w h);have Mc:=anQ (λw (h:Sl w B d M)=>uD B d M w h);have hs:=um.tL;have hr:=uk.tL;have BA:=oG L;have U7:=oG M;have wO:=oF L;have nt:=oF M;have EF:(iy M).length<=(iy L).length:=by
  apply b9;intro h;have:=Kj hs.ok (zu M) aD;omega
 unfold mn at wO nt;rw[<-BA,<-U7]at hle ⊢;clear BA U7;obtain⟨n1,oW⟩:∃ n,n=L.length:=⟨_,rfl⟩
 obtain⟨n2,kx⟩:∃ n,n=M.length:=⟨_,rfl⟩
 rw[<-oW]at h1 wO Mb ⊢;rw[<-kx]at _h2 nt Mc ⊢;have HTL:=anQ (Mb.out w um);have HTM:=anQ (Mc.out w uk);clear Mb Mc um uk oW kx;generalize iy L=L at *
 generalize iy M=M at *
 obtain⟨l,hl⟩:∃ l,l=L.length:=⟨_,rfl⟩
 obtain⟨m,hm⟩:∃ m,m=M.length:=⟨_,rfl⟩
 rw[<-hl]at wO HTL EF;rw[<-hm]at nt HTM EF;have HL:=anQ hl;have HM:=anQ hm;have HLE:=anQ hle;clear hl hm hle;have oV:=C5 l aD;have sW:=anQ (Rw.xR w l);go_enter func298,ntmps298;go_wp2_with fail;refine HTL.out.mono ?_;rintro e w1 ⟨rfl,rfl⟩;go_wp2_with fail;refine HTM.out.mono ?_;rintro e w1 ⟨rfl,rfl⟩;go_wp2;go_loopw [6,7,8,9,19] (λcy _ _ _ i wr=>∃ (k q:Nat) (O:List Nat),k<=l/\i = .int .i64 k/\cy = .int .u32 q/\q<=1/\O.length=l/\iK O/\tS O k/\val O+val (M.take k)=val (L.take k)+4294967296^k*q/\Rw wr w.heap.size O/\iG w wr) (λ_ _ _ _ i _=>l-(intOf i).toNat)
 case atStart=>
  exact⟨0,0,List.replicate l 0,ch _,rfl,rfl,aF,aJ,iK.BT _,tS.PO _,by simp[zz],sW.out,iG.alloc _ _⟩
 case round=>
  obtain⟨k,q,O,hk,rfl,rfl,hq,hO,lg,hz,lr,hR,hb⟩:=hrel;have HV:=anQ lr;have HO:=anQ hO;clear lr hO;have HZ:=anQ hz;clear hz;by_cases iO:k<l
  .have tw:k<L.length:=by have:=HL.out;omega
   obtain⟨ab,ao,e1,_,c1⟩:=(hs.below hb).lL tw;have mJ:L[k]<4294967296:=hs.ok.get tw;have ho:=HZ.out.at (by have:=HO.out;omega)
   have c4:=hR.frozen k;have Im:=hR.cell ho;have HT:=anQ (yi L k tw);have HY:=anQ (uL M k);have ph:M.getD k 0<4294967296:=hr.ok.getD k;have HYc:=anQ (λ(h:k<M.length)=>(hr.below hb).lL h);have HYg:=anQ (λ(h:k<M.length)=>zQ h);have HYn:=anQ (λ(h:¬k<M.length)=>CB h);obtain⟨a,ha⟩:∃ a,a=L[k]:=⟨_,rfl⟩
   rw[<-ha]at c1 mJ HT;clear ha tw;have HN:=anQ (λv=>HZ.out.set v);have HOK:=anQ (λ(v:Nat) (h:v<4294967296)=>lg.set k h);have HR2:=anQ (λv:Nat=>hR.set k v);have HE2:=anQ (λv:Value=>hb.setCell (p:=⟨w.heap.size,k,none⟩) (bp _) v);have HO0:=anQ ho;clear ho hR hb lg;subst e1;by_cases Vf:k<m
   .have wN:k<M.length:=by have:=HM.out;omega
    obtain⟨bb,bo,e2,_,c2⟩:=HYc.out wN;subst e2;rw[<-HYg.out wN]at c2;generalize M.getD k 0=b at *
    clear HYc HYg HYn wN;have HS:=anQ (Y2 HO0.out HV.out HT.out HY.out (D7 a b q mJ ph hq).1);have HD:=anQ (D7 a b q mJ ph hq).2;have HA:=anQ (λw=>YY a b q w mJ ph hq);generalize xw a b q=dd at *
    generalize AY a b q=bb' at *
    go_wp2_with fail;refine(HA.out _).mono ?_;rintro e w1 ⟨rfl,rfl⟩;go_wp2;go_roundw
    case rel=>
     exact⟨k+1,bb',O.set k dd,aD,by go_num,rfl,HD.out.1,by rw[cS];exact HO.out,HOK.out _ HD.out.2,HN.out _,HS.out,HR2.out _,HE2.out _⟩
    case measure=>simp[intOf];omega
   .rw [HYn.out (by have:=HM.out;omega)]at HY;clear HYc HYg HYn ph;have HS:=anQ (Y2 HO0.out HV.out HT.out HY.out (D7 a 0 q mJ aF hq).1);have HD:=anQ (D7 a 0 q mJ aF hq).2;have HA:=anQ (λw=>YY a 0 q w mJ aF hq);generalize xw a 0 q=dd at *
    generalize AY a 0 q=bb' at *
    go_wp2_with fail;refine(HA.out _).mono ?_;rintro e w1 ⟨rfl,rfl⟩;go_wp2;go_roundw
    case rel=>
     exact⟨k+1,bb',O.set k dd,aD,by go_num,rfl,HD.out.1,by rw[cS];exact HO.out,HOK.out _ HD.out.2,HN.out _,HS.out,HR2.out _,HE2.out _⟩
    case measure=>simp[intOf];omega
  .obtain rfl:k=l:= aD ;have HF:=anQ (show val O=val L-val M by
    have h:=HV.out;rw[show L.take k=L from cP (by rw[HL.out];exact bp _),show M.take k=M from cP (by rw[<-HM.out];exact EF)]at h;exact(Y1 lg HO.out h HLE.out).2)
   go_wp2;go_ret;have yS:=hR.sl lg (by rw[HO.out];omega);exact⟨_,HF.out,lg,by rw[HO.out];exact wO,_,_,(by rw[HO.out];rfl),yS,hb⟩
def Zr{T:List Nat}{v:Nat}(h:iK T)(hv:val T=v):iy T=ij v:=by rw[rJ h,hv]
def Wy(A B:Option Addr)(c d:Nat)(L M:List Nat)(w:World)(hs:Sl w A c L)(hr:Sl w B d M)(h1:L.length<=256)(h2:M.length<=256)(hf:(ij (val L+val M)).length<=256):
 Calls prog 276 #[.slice A L.length c,.slice B M.length d] w (Cf w (ij (val L+val M)) 0):=by
 have H1:=anQ (λw (h:Sl w A c L) (k:Sl w B d M)=>ahk A B c d L M w h k aD aD);generalize val L+val M=v at *
 go_enter func276,ntmps276;go_wp2_with fail;refine(VX _ A B _ c _ d _ false (P8 _ _ _ _ _ _ _) (P9 _ _ _ _ _ _ _) aR).mono ?_;rintro e w' ⟨rfl,rfl⟩;go_wp2_with fail;refine(H1.out _ (hs.alloc _) (hr.alloc _)).mono ?_;rintro e w' ⟨T,hv,hk,hl,A',c',rfl,mQ,hb⟩;have ht:=anQ (Zr hk hv);go_wp2_with fail;refine(FF A' c' T _ mQ (by rw[ht.out];exact hf)).mono ?_;rintro e w'' ⟨A'',c'',rfl,qu,ns⟩;rw[ht.out]at qu ⊢;go_wp2;go_ret2;exact⟨A'',c'',rfl,qu,(iG.alloc _ _).trans (hb.trans ns)⟩
def NQ(A B:Option Addr)(c d:Nat)(L M:List Nat)(w:World)(hs:Sl w A c L)(hr:Sl w B d M)(h1:L.length<=256)(h2:M.length<=256)(hle:val M<=val L):
 Calls prog 277 #[.slice A L.length c,.slice B M.length d] w (Cf w (ij (val L-val M)) 0):=by
 have H1:=anQ (λw (h:Sl w A c L) (k:Sl w B d M)=>ahp A B c d L M w h k aD aD hle);have HC:=anQ (λw (h:Sl w A c L) (k:Sl w B d M)=>FD A B c d L M w h k aD aD);have hc:decide (kD (val L) (val M)<0)=false:=by
  apply bt;unfold kD;rw[bl aD];split<;>decide
 have hf:(ij (val L-val M)).length<=256:=bJ (vG (dS _ _)) (Nx hs.ok h1);generalize val L-val M=v at *
 generalize kD (val L) (val M)=q at *
 clear hle;go_enter func277,ntmps277;go_wp2_with fail;refine(VX _ A B _ c _ d _ false (P8 _ _ _ _ _ _ _) (P9 _ _ _ _ _ _ _) aR).mono ?_;rintro e w' ⟨rfl,rfl⟩;go_wp2_with fail;refine(HC.out _ (hs.alloc _) (hr.alloc _)).mono ?_;rintro e w1 ⟨rfl,jt⟩;go_wp2_with fail;refine(H1.out _ ((hs.alloc _).below jt) ((hr.alloc _).below jt)).mono ?_;rintro e w' ⟨T,hv,hk,hl,A',c',rfl,mQ,hb⟩;have ht:=anQ (Zr hk hv);go_wp2_with fail;refine(FF A' c' T _ mQ (by rw[ht.out];exact hf)).mono ?_;rintro e w'' ⟨A'',c'',rfl,qu,ns⟩;rw[ht.out]at qu ⊢;go_wp2;go_ret2;exact⟨A'',c'',rfl,qu,(iG.alloc _ _).trans (jt.trans (hb.trans ns))⟩
end Go.Proofs.YtbhhompalmdaiaaGreatDoor
namespace Go.Proofs.YtbhhompalmdaiaaGreatDoor.Fp
def kY(d:Dy):Dy:=if nu d then d else iQ
def nk(d:Dy):Int:=if nu d then 0 else 9
def A7{d:Dy}(h:nu d):kY d=d:=bn h
def GW{d:Dy}(h:nu d):nk d=0:=bn h
def K0{d:Dy}(h:¬nu d):kY d=iQ:=bl h
def GV{d:Dy}(h:¬nu d):nk d=9:=bl h
def K1{d:Dy}(h:d.lh):(kY d).iu:=by
 by_cases hr:nu d
 .rw [A7 hr];exact⟨h,hr⟩
 .rw [K0 hr];exact qn
def Pt{a b:Dy}(ha:a.m≠0)(hb:b.m≠0):iJ a b=iJ b a:=by
 unfold iJ;rw[bl ha,bl hb,bl hb,bl ha,Int.min_comm,Int.add_comm]
def Za{a b:Dy}(ha:a.iu)(hb:b.iu)(a0:a.m≠0)(b0:b.m≠0){k:Int}(hk:min a.e b.e=k)(h1:4097<a.jd-k)(h2:1<a.jd-b.jd):¬nu (iJ a b):=by
 have UD:k<=a.e:= aD ;have UE:k<=b.e:= aD ;have m1:=GO a0 UD;have m2:=GO b0 UE;have ta:a.jd=iA a.m+a.e:=by unfold Dy.jd;rw[bl a0]
 have tb:b.jd=iA b.m+b.e:=by unfold Dy.jd;rw[bl b0]
 have ba:iA a.m<=4096:=by rcases ha.range with h|⟨h,_⟩;exact absurd h a0;exact h
 have kq:a.e≠k:= aD ;have Ik:b.e=k:= aD ;have oa:a.j8 k%2=0:=by
  unfold Dy.j8;obtain⟨j,hj⟩:∃ j,(a.e-k).toNat=j+1:=⟨(a.e-k).toNat-1,aD⟩
  rw[hj,bG,<-bB,fC]
 have ob:b.j8 k%2=1:=by
  unfold Dy.j8;rw[Ik,show(k-k).toNat=0 by omega,ca,cg];rcases hb.canon with⟨h,_,_⟩|h
  .exact absurd h b0
  .exact h
 have pa:=vJ a0 k;obtain⟨p,hp⟩:∃ p,iA (a.j8 k)=p+2:=⟨iA (a.j8 k)-2,aD⟩
 have l1:=rk (aD:a.j8 k≠0);have l2:=pE (b.j8 k);rw[hp,(aD:p+2-1=p+1),bG]at l1;have l3:2^iA (b.j8 k)<=2^p:=bI aF aD;have hz:(a.num k+b.num k).natAbs%2=1/\2^p<=(a.num k+b.num k).natAbs:=by
  unfold Dy.num;generalize a.j8 k=x at *
  generalize b.j8 k=y at *
  generalize 2^p=P at *
  split<;>split<;>omega
 unfold iJ;rw[bl a0,bl b0,hk];unfold lY;generalize (a.num k+b.num k).natAbs=z at *
 generalize decide (a.num k+b.num k<0)=s at *
 have hc:canon s z k=⟨s,z,k⟩:=Dy.lh.Co (d:=⟨s,z,k⟩) (.inr hz.1);rw[hc];have hb:=wX.2 hz.2;rintro(h|⟨h,_⟩)
 .simp only at h;omega
 .simp only at h;omega
def alf{a b:Dy}(ha:a.iu)(hb:b.iu)(a0:a.m≠0)(b0:b.m≠0){k:Int}(hk:min a.e b.e=k)(h1:4097<max a.jd b.jd-k)(h2:1<a.jd-b.jd\/1<b.jd-a.jd):¬nu (iJ a b):=by
 rcases h2 with h2|h2
 .exact Za ha hb a0 b0 hk aD h2
 .rw [Pt a0 b0];exact Za (k:=k) hb ha b0 a0 (by rw[Int.min_comm];exact hk) aD h2
def alh{a b:Dy}(ha:a.iu)(hb:b.iu)(a0:a.m≠0)(b0:b.m≠0){k:Int}(hk:min a.e b.e=k)(h:¬(4097<max a.jd b.jd-k/\(1<a.jd-b.jd\/1<b.jd-a.jd))):
 iA (a.m*2^(a.e-k).toNat)<=4097/\iA (b.m*2^(b.e-k).toNat)<=4097:=by
 have ta:a.jd=iA a.m+a.e:=by unfold Dy.jd;rw[bl a0]
 have tb:b.jd=iA b.m+b.e:=by unfold Dy.jd;rw[bl b0]
 have ba:iA a.m<=4096:=by rcases ha.range with h|⟨h,_⟩;exact absurd h a0;exact h
 have bb:iA b.m<=4096:=by rcases hb.range with h|⟨h,_⟩;exact absurd h b0;exact h
 rw[qE a0,qE b0];omega
def aaZ{x y n:Nat}(hx:iA x<=n)(hy:iA y<=n):iA (x+y)<=n+1:=by
 rw[kV]at *
 rw[bG];omega
def jg(m:Nat)(e:Int)(p:Nat):Nat:=(max (max ((iA m:Int)-p) (-16384-e)) 0).toNat
def kH(m:Nat)(e:Int)(more:Bool)(p:Nat)(out:Bool):Nat:=
 m/2^jg m e p+if out=true/\(more=true\/m%2^jg m e p≠0)then 1 else 0
def lZ(m:Nat)(e:Int)(more:Bool)(p:Nat)(out:Bool):Bool:=
 decide (kH m e more p out≠0)&&decide (16384<(iA (kH m e more p out):Int)+e+jg m e p)
def kf(neg:Bool)(m:Nat)(e:Int)(more:Bool)(p:Nat)(up:Bool):Dy:=
 if lZ m e more p (neg != up)=true then(if(neg != up)=true then iQ else canon neg (2^p-1) (16384-p))else canon neg (kH m e more p (neg != up)) (e+jg m e p)
def jV(neg:Bool)(m:Nat)(e:Int)(more:Bool)(p:Nat)(up:Bool):Int:=
 if(lZ m e more p (neg != up)&&(neg != up))=true then 9 else 0
def acg{N d k:Nat}:(N/2^d%2^k≠0\/N%2^d≠0)↔N%2^(d+k)≠0:=by
 have e1:N%2^(d+k)=N%2^d+2^d*(N/2^d%2^k):=by rw[bw,gy]
 have hp:0<2^d:=bA aF;rw[e1];constructor
 .rintro (h|h)
  .have:=eP hp (eF h);omega
  .omega
 .intro h;by_cases h1:N%2^d=0
  .left;intro h2;rw[h1,h2,cQ]at h;exact h rfl
  .exact .inr h1
def abZ{N:Nat}{E:Int}{more:Bool}{d p:Nat}(hb:p<iA (N/2^d)):
 jg (N/2^d) (E+d) p+d=jg N E p /\
 ∀ out,kH (N/2^d) (E+d) (more||decide (N%2^d≠0)) p out=kH N E more p out:=by
 have hN:d<iA N:=by
  apply b9;intro h;have h1:N<2^d:=kV.1 aD;rw[cA h1]at hb;simp[iA]at hb
 have yH:iA (N/2^d)+d=iA N:=by
  have h0:N/2^d≠0:=by intro h;rw[h]at hb;simp[iA]at hb
  have h1:=rk h0;have h2:=pE (N/2^d);obtain⟨j,hj⟩:∃ j,iA (N/2^d)=j+1:=⟨iA (N/2^d)-1,aD⟩
  rw[hj]at h1 h2 ⊢;rw[eD,dB (bA aF),<-bw]at h1;rw[cr (bA aF),<-bw]at h2;have:=uT (k:=j+d) h1 (by rw[(aD:j+d+1=j+1+d)];exact h2);omega
 have hk:jg (N/2^d) (E+d) p+d=jg N E p:=by
  unfold jg;omega
 refine⟨hk,λout=>?_⟩;unfold kH;rw[<-hk];generalize jg (N/2^d) (E+d) p=k;have Mx:=@acg N d k;rw[(aD:k+d=d+k),cU,<-bw];congr 1;have:((more||decide (N%2^d≠0))=true\/N/2^d%2^k≠0)↔(more=true\/N%2^(d+k)≠0):=by
  rw[<-Mx];simp only[eX,cH];constructor
  .rintro ((h|h)|h)
   .exact .inl h
   .exact .inr (.inr h)
   .exact .inr (.inl h)
  .rintro (h|h|h)
   .exact .inl (.inl h)
   .exact .inr h
   .exact .inl (.inr h)
 by_cases ho:out=true
 .simp only[ho,true_and,this]
 .rw [bl (λh=>ho h.1),bl (λh=>ho h.1)]
def G3{N:Nat}{E:Int}{more:Bool}{d p:Nat}(neg up:Bool)(hb:p<iA (N/2^d)):
 kf neg (N/2^d) (E+d) (more||decide (N%2^d≠0)) p up=kf neg N E more p up /\
 jV neg (N/2^d) (E+d) (more||decide (N%2^d≠0)) p up=jV neg N E more p up:=by
 obtain⟨hk,hq⟩:=abZ (more:=more) (E:=E) hb;have hq:=hq (neg != up);have e1:E+(d:Int)+(jg (N/2^d) (E+d) p:Int)=E+(jg N E p:Int):= aD ;have e2:(iA (kH N E more p (neg != up)):Int)+(E+(d:Int))+(jg (N/2^d) (E+d) p:Int)=(iA (kH N E more p (neg != up)):Int)+E+(jg N E p:Int):= aD ;have ho:lZ (N/2^d) (E+d) (more||decide (N%2^d≠0)) p (neg != up)=lZ N E more p (neg != up):=by
  unfold lZ;rw[hq,e2]
 unfold kf jV;rw[hq,ho,e1];exact⟨rfl,rfl⟩
def KV(s:Bool)(m:Nat)(e:Int)(j:Nat):canon s (m*2^j) (e-j)=canon s m e:=by
 by_cases h0:m=0
 .subst h0;rw[cN];rfl
 .have h1:m*2^j≠0:=fe h0 (eO (bA aF));obtain⟨q,hq,he⟩:=A9 h0;have hc:kr (m*2^j)=kr m+j:=by
   conv=>lhs;rw[he,bB,<-bw]
   exact yz hq _
  unfold canon;rw[bl h1,bl h0,hc,bw,bE (2^kr m),<-cU,eg _ (bA aF)];rw[(aD:e-(j:Int)+((kr m+j:Nat):Int)=e+(kr m:Int))]
def abY(neg up:Bool)(N:Nat)(E:Int)(j p:Nat)(h0:N≠0):
 kf neg (N*2^j) (E-j) false p up=kf neg N E false p up/\jV neg (N*2^j) (E-j) false p up=jV neg N E false p up:=by
 have yH:=qE h0 j;by_cases hk:jg N E p=0
 .
  have qY:jg (N*2^j) (E-j) p<=j:=by unfold jg at hk ⊢;rw[yH];omega
  obtain⟨i,hi⟩:∃ i,j=i+jg (N*2^j) (E-j) p:=⟨j-jg (N*2^j) (E-j) p,aD⟩
  generalize hK:jg (N*2^j) (E-j) p=k at *
  have hdiv:N*2^j/2^k=N*2^i:=by
   rw[hi,bw,<-bB,eg _ (bA aF)]
  have MR:N*2^j%2^k=0:=by
   rw[hi,bw,<-bB];exact fC _ _
  have hq:∀ out,kH (N*2^j) (E-j) false p out=N*2^i:=λout=>by
   unfold kH;rw[hK,hdiv,MR];simp
  have uj:∀ out,kH N E false p out=N:=λout=>by
   unfold kH;rw[hk];simp[dn]
  have kq:N*2^i≠0:=fe h0 (eO (bA aF));have ho:∀ out,lZ (N*2^j) (E-j) false p out=lZ N E false p out:=λout=>by
   unfold lZ;rw[hq,uj,hK,hk,qE h0 i];simp only[dp,kq,h0,fi,gw,gz];rw[anl];omega
  unfold kf jV;rw[ho,hq,uj,hK,hk];rw[(aD:E-(j:Int)+k=E+((0:Nat):Int)-(i:Int)),KV];exact⟨rfl,rfl⟩
 .have qY:jg (N*2^j) (E-j) p=jg N E p+j:=by unfold jg at hk ⊢;rw[yH];omega
  have hq:∀ out,kH (N*2^j) (E-j) false p out=kH N E false p out:=λout=>by
   unfold kH;rw[qY,bw,bE (2^jg N E p),<-cU,eg _ (bA aF),bE N,ic];have:(2^j*(N%2^jg N E p)≠0)↔(N%2^jg N E p≠0):=by
    rw[dp,dp,ie];have:=bA (n:=j) (aF:0<2);omega
   simp only[this]
  have ho:∀ out,lZ (N*2^j) (E-j) false p out=lZ N E false p out:=λout=>by
   unfold lZ;rw[hq,qY];congr 2;rw[eq_iff_iff];omega
  unfold kf jV;rw[ho,hq,qY];rw[(aD:E-(j:Int)+((jg N E p+j:Nat):Int)=E+(jg N E p:Int))];exact⟨rfl,rfl⟩
def jG(d:Dy)(p:Nat)(up:Bool):Dy:=kf d.neg d.m d.e false p up
def jZ(d:Dy)(p:Nat)(up:Bool):Int:=jV d.neg d.m d.e false p up
def Yh(s up:Bool)(m:Nat)(e:Int)(p:Nat)(h0:m≠0):
 jG (canon s m e) p up=kf s m e false p up/\jZ (canon s m e) p up=jV s m e false p up:=by
 have hm:=Ha h0;have hq:m/2^kr m≠0:=by have:=Dd h0;omega
 have h:=abY s up (m/2^kr m) (e+kr m) (kr m) p hq;rw[hm,(aD:e+(kr m:Int)-(kr m:Int)=e)]at h;unfold jG jZ canon;rw[bl h0];exact⟨h.1.symm,h.2.symm⟩
def A5{s:Bool}{m:Nat}{e:Int}(h0:m≠0):(iA (canon s m e).m:Int)+(canon s m e).e=iA m+e/\e<=(canon s m e).e/\(canon s m e).m≠0/\iA (canon s m e).m<=iA m:=by
 have hm:=Ha h0;have hq:m/2^kr m≠0:=by have:=Dd h0;omega
 have h:=qE hq (kr m);rw[hm]at h;unfold canon;rw[bl h0];simp only;exact⟨aD,aD,hq,aD⟩
def RV(m:Nat)(e:Int)(p:Nat):m/2^jg m e p<2^p:=by
 rw[cr (bA aF),<-bw];refine kV.1 ?_;unfold jg;omega
def abf{s:Bool}{q p:Nat}{e:Int}(h:q<=2^p)(hp:1<=p):iA (canon s q e).m<=p:=by
 by_cases h0:q=0
 .subst h0;exact ch _
 .by_cases h1:q=2^p
  .have hc:kr q=p:=by rw[h1];have:=yz (m:=1) rfl p;rwa[ck]at this
   unfold canon;rw[bl h0,hc,h1,Nat.div_self (bA aF)];exact bJ (kV.2 (show 1<2^1 by decide)) hp
  .exact bJ (A5 h0).2.2.2 (kV.2 aD)
def RH(m:Nat)(e:Int)(more:Bool)(p:Nat)(out:Bool):kH m e more p out<=2^p:=by
 have:=RV m e p;unfold kH;split<;>omega
def mD(neg:Bool)(m:Nat)(e:Int)(more:Bool)(p:Nat)(up:Bool)(hp:1<=p)(iq:p<=4096):(kf neg m e more p up).iu:=by
 unfold kf;by_cases ho:lZ m e more p (neg != up)=true
 .rw [bn ho];by_cases hn:(neg != up)=true
  .rw [bn hn];exact qn
  .rw [bl hn];have hpp:2<=2^p:=by
    have:=bI (n:=2) aF hp;omega
   have h0:2^p-1≠0:= aD ;have hb:iA (2^p-1)=p:=by
    obtain⟨j,rfl⟩:∃ j,p=j+1:=⟨p-1,aD⟩
    have h2:2^(j+1)=2^j*2:=bG _ _;have h3:=bA (n:=j) (aF:0<2);exact uT aD aD 
   obtain⟨h1,h2,h3,h4⟩:=A5 (s:=neg) (e:=(16384:Int)-p) h0;have h5:=nj h3;exact⟨qF _ _ _,.inr ⟨aD,aD,aD,aD⟩⟩
 .rw [bl ho];refine⟨qF _ _ _,?_⟩;by_cases h0:kH m e more p (neg != up)=0
  .rw [h0];exact .inl rfl
  .have hq:=abf (s:=neg) (e:=e+(jg m e p:Int)) (RH m e more p (neg != up)) hp;obtain⟨h1,h2,h3,h4⟩:=A5 (s:=neg) (e:=e+(jg m e p:Int)) h0;have h5:=nj h3;have h6:-16384<=e+(jg m e p:Int):=by unfold jg;omega
   unfold lZ at ho;simp only[dp,h0,fi,gw,gz,cH]at ho;exact .inr ⟨aD,aD,aD,aD⟩
def D6{neg:Bool}{m:Nat}{e:Int}{more:Bool}{p:Nat}{up:Bool}:jV neg m e more p up=0↔¬(lZ m e more p (neg != up)=true/\(neg != up)=true):=by
 unfold jV;cases lZ m e more p (neg != up)<;>cases(neg != up)<;>simp
def RK(neg:Bool)(m:Nat)(e:Int)(more:Bool)(p:Nat)(h1:jV neg m e more p false=0)(h2:jV neg m e more p true=0):
 jA (kf neg m e more p false) (kf neg m e more p true)<=0:=by
 have qZ:¬lZ m e more p true=true:=by
  cases neg
  .rw [D6]at h2;simpa using h2
  .rw [D6]at h1;simpa using h1
 have hle:kH m e more p false<=kH m e more p true:=by
  unfold kH;simp only[bZ,false_and,bF];omega
 have mq:¬lZ m e more p false=true:=by
  unfold lZ at qZ ⊢;intro h;apply qZ;simp only[bY,cH]at h ⊢;have:=tg hle;exact⟨aD,aD⟩
 have key:∀ o:Bool,¬lZ m e more p o=true:=λo=>by cases o;exact mq;exact qZ
 unfold kf;rw[bl (key _),bl (key _)];rw[A8 (k:=e+(jg m e p:Int)) (zE (cv _)) (zE (cv _)),BL (cv _),BL (cv _)];rw[show(e+(jg m e p:Int)-(e+(jg m e p:Int))).toNat=0 by omega];simp only[ca,cg];unfold uV;cases neg
 .simp only[bZ,bF,Bool.false_bne];split
  .decide
  .split<;>omega
 .simp only[bN,Bool.true_bne,eU,fE];split
  .decide
  .split<;>omega
def mN(b:Dy)(low:Int):Nat:=if low<=b.e then b.m*2^(b.e-low).toNat else b.m/2^(low-b.e).toNat
def nx(b:Dy)(low:Int):Bool:=decide (¬low<=b.e)&&decide (b.m%2^(low-b.e).toNat≠0)
def Y3{a b:Dy}(ha:a.lh)(hb:b.lh){K:Int}(h1:K<=a.e)(h2:K<=b.e):iJ a b=lY (a.num K+b.num K) K:=by
 refine Ln (k:=K) (wq ha hb) (qF _ _ _) (GB (.inr h1) (.inr h2)) (KC (cv _)) ?_;rw[J4 (.inr h1) (.inr h2),N6 (cv _),show(K-K).toNat=0 by omega];simp
def JR{a b:Dy}(ha:a.lh)(hb:b.lh){K:Int}(h1:K<=a.e)(h2:K<=b.e)(s:Bool)(Z:Nat)(h0:Z≠0)(hz:a.num K+b.num K=if s then -(Z:Int)else(Z:Int))(p:Nat)(up:Bool):
 jG (iJ a b) p up=kf s Z K false p up/\jZ (iJ a b) p up=jV s Z K false p up:=by
 have:iJ a b=canon s Z K:=by rw[Y3 ha hb h1 h2,hz,GQ]
 rw[this];exact Yh s up Z K p h0
def Jn(d:Dy)(K:Int):d.num K=if d.neg then -(d.j8 K:Int)else(d.j8 K:Int):=rfl
section
variable {a b:Dy} {low:Int} {p:Nat}
def Pb(a0:a.m≠0)(b0:b.m≠0)(h1:low<=a.e)(h2:low<=a.jd-p-8)(h3:low<=b.e\/3<=a.jd-b.jd):
 ∃ (K:Int) (d:Nat),K<=a.e/\K<=b.e/\low=K+d/\a.j8 K=a.m*2^(a.e-low).toNat*2^d/\mN b low=b.j8 K/2^d/\(nx b low=decide (b.j8 K%2^d≠0)) /\
  (d=0\/(p+8<=iA (a.m*2^(a.e-low).toNat)/\iA (b.j8 K/2^d)+3<=iA (a.m*2^(a.e-low).toNat))):=by
 have ta:a.jd=iA a.m+a.e:=by unfold Dy.jd;rw[bl a0]
 have tb:b.jd=iA b.m+b.e:=by unfold Dy.jd;rw[bl b0]
 have hx:=qE a0 (a.e-low).toNat
 by_cases h:low<=b.e
 .refine ⟨low,0,h1,h,aD,by unfold Dy.j8;simp,?_,?_,.inl rfl⟩
  .unfold mN Dy.j8;rw[bn h];simp
  .unfold nx;simp[h,dn]
 .refine ⟨b.e,(low-b.e).toNat,aD,cv _,aD,?_,?_,?_,.inr ⟨aD,?_⟩⟩
  .unfold Dy.j8;rw[bB,<-bw];congr 2;omega
  .unfold mN Dy.j8;rw[bl h];simp
  .unfold nx Dy.j8;simp[h]
  .have hm:b.j8 b.e=b.m:=by unfold Dy.j8;simp
   rw[hm];have hd:iA (b.m/2^(low-b.e).toNat)<=iA b.m-(low-b.e).toNat:=by
    rw[kV,cr (bA aF),<-bw];exact kV.1 aD 
   have:=h3.resolve_left h;omega
def akh(ha:a.lh)(hb:b.lh)(a0:a.m≠0)(b0:b.m≠0)(h1:low<=a.e)(h2:low<=a.jd-p-8)(h3:low<=b.e\/3<=a.jd-b.jd)(hs:a.neg=b.neg)(up:Bool):
 kf a.neg (a.m*2^(a.e-low).toNat+mN b low) low (nx b low) p up=jG (iJ a b) p up/\jV a.neg (a.m*2^(a.e-low).toNat+mN b low) low (nx b low) p up=jZ (iJ a b) p up:=by
 obtain⟨K,d,k1,k2,rfl,hx,hy,hl,hd⟩:=Pb (p:=p) a0 b0 h1 h2 h3;generalize a.m*2^(a.e-(K+d)).toNat=x at *
 have ma:=vJ a0 K;have mb:=vJ b0 K;obtain⟨r1,r2⟩:=JR ha hb k1 k2 a.neg (a.j8 K+b.j8 K) aD (by
  rw[Jn a,Jn b,<-hs];cases a.neg<;>simp<;>omega) p up
 rw[r1,r2,hy,hl];have e1:(a.j8 K+b.j8 K)/2^d=x+b.j8 K/2^d:=by
  rw[hx,bE x,dJ (bA aF)]
 have e2:(a.j8 K+b.j8 K)%2^d=b.j8 K%2^d:=by
  rw[hx,bE x,ep]
 rcases hd with rfl|⟨qt,sy⟩
 .simp only[ca,dL,dn]at e1 ⊢;rw[<-e1];have:K+((0:Nat):Int)=K:= aD ;rw[this];simp
 .have hb:p<iA ((a.j8 K+b.j8 K)/2^d):=by
   rw[e1];have:=tg (aD:x<=x+b.j8 K/2^d);omega
  have h:=G3 (E:=K) (more:=false) a.neg up hb;rw[e1,e2,fN]at h;exact h
def alc{x N D:Nat}(hD:0<D)(h:N<=x*D):(x*D-N)/D=x-(N/D+if N%D≠0 then 1 else 0)/\((x*D-N)%D≠0↔N%D≠0)/\N/D+(if N%D≠0 then 1 else 0)<=x:=by
 have hN:=cB N D;have hr:=bC N hD;generalize N/D=q at *
 generalize N%D=r at *
 by_cases h0:r=0
 .subst h0;simp only[dp,gR,bF,bK]at hN ⊢;have hq:q<=x:=by
   apply b9;intro h';have:=bR D (aD:x+1<=q);rw[b8,bE q]at this;omega
  have e:x*D-N=(x-q)*D:=by rw[Nat.sub_mul,<-hN,bE q]
  rw[e,eg _ hD,fC];exact⟨rfl,aJ,hq⟩
 .have hq:q+1<=x:=by
   apply b9;intro h';have:=bR D (aD:x<=q);rw[bE q]at this;omega
  have e:x*D-N=(D-r)+D*(x-(q+1)):=by
   have h1:D*(x-(q+1))=D*x-D*(q+1):=Nat.mul_sub _ _ _;have h2:D*(q+1)<=D*x:=cM _ hq;rw[bM,cg]at h1 h2;rw[bE x];omega
  have iO:D-r<D:= aD ;rw[e,fz _ _ hD,cA iO,eJ,bQ iO];simp only[dp,h0,fi,bN];exact⟨aD,⟨λ_=>trivial,λ_=> aD⟩,hq⟩
def akg(ha:a.lh)(hb:b.lh)(a0:a.m≠0)(b0:b.m≠0)(h1:low<=a.e)(h2:low<=a.jd-p-8)(h3:low<=b.e\/3<=a.jd-b.jd)(hs:a.neg≠b.neg)(up:Bool):
  (a.m*2^(a.e-low).toNat<mN b low+(if nx b low=true then 1 else 0) ->
   kf (!a.neg) (mN b low+(if nx b low=true then 1 else 0)-a.m*2^(a.e-low).toNat) low false p up=jG (iJ a b) p up/\jV (!a.neg) (mN b low+(if nx b low=true then 1 else 0)-a.m*2^(a.e-low).toNat) low false p up=jZ (iJ a b) p up) /\
  (mN b low+(if nx b low=true then 1 else 0)<=a.m*2^(a.e-low).toNat ->
   (a.m*2^(a.e-low).toNat-(mN b low+(if nx b low=true then 1 else 0))=0/\nx b low=false->iJ a b=iQ) /\
   (¬(a.m*2^(a.e-low).toNat-(mN b low+(if nx b low=true then 1 else 0))=0/\nx b low=false) ->
    kf a.neg (a.m*2^(a.e-low).toNat-(mN b low+(if nx b low=true then 1 else 0))) low (nx b low) p up=jG (iJ a b) p up/\jV a.neg (a.m*2^(a.e-low).toNat-(mN b low+(if nx b low=true then 1 else 0))) low (nx b low) p up=jZ (iJ a b) p up)):=by
 obtain⟨K,d,k1,k2,rfl,hx,hy,hl,hd⟩:=Pb (p:=p) a0 b0 h1 h2 h3;generalize a.m*2^(a.e-(K+d)).toNat=x at *
 have ma:=vJ a0 K;have mb:=vJ b0 K;have Aa:a.num K+b.num K=if a.neg then(b.j8 K:Int)-a.j8 K else(a.j8 K:Int)-b.j8 K:=by
  rw[Jn a,Jn b];cases h:a.neg<;>cases h':b.neg<;>simp[h,h']at hs ⊢ <;> omega
 rw[hy,hl];rcases hd with rfl|⟨qt,sy⟩
 .
  rw[ca,cg]at hx;have e0:K+((0:Nat):Int)=K:= aD ;simp only[ca,dL,dn,dp,gR,decide_false,bZ,bF,bK,e0,and_true];refine⟨λiO=>?_,λhle=>⟨λhz=>?_,λhz=>?_⟩⟩
  .obtain ⟨r1,r2⟩:=JR ha hb k1 k2 (!a.neg) (b.j8 K-x) aD (by
    rw[Aa,hx];cases a.neg<;>simp<;>omega) p up
   exact⟨r1.symm,r2.symm⟩
  .rw [Y3 ha hb k1 k2,Aa,hx];have:x=b.j8 K:= aD ;rw[this];cases a.neg<;>simp[lY,canon,iQ]
  .obtain ⟨r1,r2⟩:=JR ha hb k1 k2 a.neg (x-b.j8 K) aD (by
    rw[Aa,hx];cases a.neg<;>simp<;>omega) p up
   exact⟨r1.symm,r2.symm⟩
 .
  have hD:=bA (n:=d) (aF:0<2);have og:x≠0:=by intro h;rw[h]at qt;simp[iA]at qt
  obtain⟨j,hj⟩:∃ j,iA x=j+3:=⟨iA x-3,aD⟩
  have sX:=rk og;rw[hj,(aD:j+3-1=j+2),bw]at sX;have CY:b.j8 K/2^d<2^j:=kV.1 aD;have hle:b.j8 K<=x*2^d:=by
   have h5:=cB (b.j8 K) (2^d);have h6:=bC (b.j8 K) hD;have h7:2^d*(b.j8 K/2^d+1)<=2^d*x:=cM _ aD;rw[bM,cg,bE _ x]at h7;omega
  obtain⟨e1,e2,e3⟩:=alc hD hle;have hc:(if decide (b.j8 K%2^d≠0)=true then 1 else 0)=(if b.j8 K%2^d≠0 then 1 else 0):=by simp only[cH]
  rw[hc];have yG:p<iA (x-(b.j8 K/2^d+if b.j8 K%2^d≠0 then 1 else 0)):=by
   have h8:2^(j+1)<=x-(b.j8 K/2^d+if b.j8 K%2^d≠0 then 1 else 0):=by
    rw[bG];have h9:2^j*2^2<=x:=sX;have rY:=bA (n:=j) (aF:0<2);split<;>omega
   have:=wX.2 h8;omega
  refine⟨λiO=> aD,λ_=>⟨λhz=>?_,λ_=>?_⟩⟩
  .exfalso;rw[hz.1]at yG;simp[iA]at yG
  .obtain ⟨r1,r2⟩:=JR ha hb k1 k2 a.neg (a.j8 K-b.j8 K) (by
    intro h;rw[<-hx,h,fO]at e1;rw[<-e1]at yG;simp[iA]at yG) (by
    rw[Aa];cases a.neg<;>simp<;>omega) p up
   rw[r1,r2,hx];rw[<-e1]at yG ⊢;have h:=G3 (E:=K) (more:=false) a.neg up yG;rw[fN]at h;have e4:decide ((x*2^d-b.j8 K)%2^d≠0)=decide (b.j8 K%2^d≠0):=anl.2 e2;rw[e4]at h;exact h
end
def ju(m:Nat)(e:Int)(p:Nat):Int:=max (e+iA m-p) (-16384)
def nD(m:Nat)(e:Int)(more:Bool)(p:Nat)(up:Bool):Nat:=
 if ju m e p<=e then m*2^(e-ju m e p).toNat else m/2^(ju m e p-e).toNat+if(up&&(more||decide (m%2^(ju m e p-e).toNat≠0)))=true then 1 else 0
def RG{m:Nat}{e:Int}{more:Bool}{p:Nat}(up:Bool)(h0:m≠0)(hm:more=true->p<iA m)(hp:1<=p):
 (iA (nD m e more p up):Int)+ju m e p<=16384/\kf false m e more p up=canon false (nD m e more p up) (ju m e p)/\jV false m e more p up=0 \/
 16384<(iA (nD m e more p up):Int)+ju m e p/\((up=true/\kf false m e more p up=iQ/\jV false m e more p up=9)\/(up=false/\kf false m e more p up=canon false (2^p-1) (16384-p)/\jV false m e more p up=0)):=by
 have qZ:(false != up)=up:=by cases up<;>rfl
 by_cases hU:ju m e p<=e
 .
  have hmf:more=false:=by
   cases MS:more with
   |false=>rfl
   |true=>have:=hm MS;unfold ju at hU;omega
  subst hmf;have hK:jg m e p=0:=by unfold ju at hU;unfold jg;omega
  have hQ:kH m e false p up=m:=by unfold kH;rw[hK];simp[dn]
  have hP:nD m e false p up=m*2^(e-ju m e p).toNat:=by unfold nD;rw[bn hU]
  have hb:iA (nD m e false p up)=iA m+(e-ju m e p).toNat:=by rw[hP];exact qE h0 _
  have hc:canon false (nD m e false p up) (ju m e p)=canon false m e:=by
   rw[hP];have:=KV false m e (e-ju m e p).toNat
   rwa[(aD:e-((e-ju m e p).toNat:Int)=ju m e p)]at this
  have hO:lZ m e false p up=decide (16384<(iA m:Int)+e):=by
   unfold lZ;rw[hQ,hK];simp[h0]
  by_cases tC:16384<(iA m:Int)+e
  .refine .inr ⟨aD,?_⟩;unfold kf jV;rw[qZ,hO,bq tC];cases up
   .exact .inr ⟨rfl,rfl,rfl⟩
   .exact .inl ⟨rfl,rfl,rfl⟩
  .refine .inl ⟨aD,?_,?_⟩
   .unfold kf;rw[qZ,hO,bt tC,bl aF,hQ,hK,hc];simp
   .unfold jV;rw[qZ,hO,bt tC];simp
 .have hK:jg m e p=(ju m e p-e).toNat:=by unfold ju at hU ⊢;unfold jg;omega
  have hQ:kH m e more p up=nD m e more p up:=by
   unfold kH nD;rw[bl hU,hK];congr 1;cases up<;>cases more<;>simp
  have heK:e+(jg m e p:Int)=ju m e p:=by rw[hK];omega
  have kq:16384<(iA (nD m e more p up):Int)+ju m e p->nD m e more p up≠0:=by
   intro h hz;have qd:m/2^(ju m e p-e).toNat=0:=by
    unfold nD at hz;rw[bl hU]at hz;exact(Nat.add_eq_zero_iff.1 hz).1
   have iO:m<2^(ju m e p-e).toNat:=by
    rcases Nat.div_eq_zero_iff.1 qd with h|h
    .exact absurd h (eO (bA aF))
    .exact h
   have:=kV.2 iO;rw[hz,sx]at h;have q6:=nj h0;unfold ju at h hU this;omega
  have hO:lZ m e more p up=decide (16384<(iA (nD m e more p up):Int)+ju m e p):=by
   unfold lZ;rw[hQ,show(iA (nD m e more p up):Int)+e+(jg m e p:Int)=(iA (nD m e more p up):Int)+ju m e p by omega];by_cases tC:16384<(iA (nD m e more p up):Int)+ju m e p
   .simp [kq tC]
   .simp [tC]
  by_cases tC:16384<(iA (nD m e more p up):Int)+ju m e p
  .refine .inr ⟨tC,?_⟩;unfold kf jV;rw[qZ,hO,bq tC];cases up
   .exact .inr ⟨rfl,rfl,rfl⟩
   .exact .inl ⟨rfl,rfl,rfl⟩
  .refine .inl ⟨aD,?_,?_⟩
   .unfold kf;rw[qZ,hO,bt tC,bl aF,hQ,heK]
   .unfold jV;rw[qZ,hO,bt tC];simp
def RF{m:Nat}{e:Int}{more:Bool}{p:Nat}{up:Bool}(h0:m≠0):iA (nD m e more p up)<=p+1:=by
 unfold nD;split
 .rename_i h;rw[qE h0];unfold ju at h ⊢;omega
 .rename_i h;have h1:m/2^(ju m e p-e).toNat<2^p:=by
   rw[cr (bA aF),<-bw];refine kV.1 ?_;unfold ju at h ⊢;omega
  refine kV.2 ?_;rw[bG];have:0<2^p:=bA aF;split<;>omega
def nV{m k:Nat}(h:iA m<=32*k):(ij m).length<=k:=by
 refine q9 ?_;rw[nF];exact kV.1 h
def xu{m k:Nat}(h:(ij m).length<=k):iA m<=32*k:=by
 have:=uB h;rw[nF]at this;exact kV.2 this
def RW{m n:Nat}(h:iA m<=n):m/2^n=0/\m%2^n=m:=by
 have:=kV.1 h;exact⟨cA this,bQ this⟩
def V1(m n:Nat):(kD (m/2^n*2^n) m != 0)=decide (m%2^n≠0):=by
 have h:=cB m (2^n);rw[bE]at h;unfold kD;by_cases h0:m%2^n=0
 .rw [bl aD,bl aD];simp[h0]
 .rw [bn aD];simp[h0]
def RN(neg:Bool)(m:Nat)(e:Int)(more:Bool)(p:Nat)(up:Bool):
 jV neg m e more p up=jV false m e more p (up != neg) /\
 (jV false m e more p (up != neg)=0->neg=true->jf (kf false m e more p (up != neg))=kf neg m e more p up) /\
 ((jV false m e more p (up != neg)≠0\/neg=false)->kf false m e more p (up != neg)=kf neg m e more p up):=by
 have qZ:(false != (up != neg))=(neg != up):=by cases up<;>cases neg<;>rfl
 have hE:jV neg m e more p up=jV false m e more p (up != neg):=by unfold jV;rw[qZ]
 refine⟨hE,λh hn=>?_,λh=>?_⟩
 .have h':=D6.1 h;rw[qZ]at h';have neg_canon:∀ q u,jf (canon false q u)=canon true q u:=by
   intro q u;unfold canon jf;by_cases hq:q=0
   .simp [hq]
   .rw [bl hq,bl hq];have:=Dd hq;have h0:q/2^kr q≠0:= aD ;simp[h0]
  subst hn;unfold kf;rw[qZ];by_cases ho:lZ m e more p (true != up)=true
  .have hu:(true != up)=false:=by
    cases hq:(true != up)with
    |false=>rfl
    |true=>exact absurd ⟨ho,hq⟩ h'
   rw[bn ho,bn ho,hu];simp only[bZ,bF];exact neg_canon _ _
  .rw [bl ho,bl ho];exact neg_canon _ _
 .rcases h with h|h
  .have h1:lZ m e more p (neg != up)=true/\(neg != up)=true:=by
    by_cases q:lZ m e more p (neg != up)=true/\(neg != up)=true
    .exact q
    .exact absurd (D6.2 (by rw[qZ];exact q)) h
   unfold kf;rw[qZ,bn h1.1,bn h1.2,bn h1.1,bn h1.2]
  .subst h;cases up<;>rfl
def jv(a b:Dy)(p:Nat):Int:=if a.jd-b.jd<=2 then min (min a.e (a.jd-p-8)) b.e else min a.e (a.jd-p-8)
def nG(a b:Dy)(p:Nat):Nat:=a.m*2^(a.e-jv a b p).toNat
def mL(a b:Dy)(p:Nat):Nat:=mN b (jv a b p)+if(a.neg != b.neg&&nx b (jv a b p))=true then 1 else 0
def oZ(a b:Dy)(p:Nat):Bool:=(a.neg != b.neg)&&decide (nG a b p<mL a b p)
def mm(a b:Dy)(p:Nat):Nat:=if a.neg=b.neg then nG a b p+mL a b p else if nG a b p<mL a b p then mL a b p-nG a b p else nG a b p-mL a b p
def nc(a b:Dy)(p:Nat):Bool:=nx b (jv a b p) && !oZ a b p
def O4(a b:Dy)(p:Nat):jv a b p<=a.e/\jv a b p<=a.jd-p-8/\(jv a b p<=b.e\/3<=a.jd-b.jd):=by
 unfold jv;split<;>omega
def DE{a:Dy}(a0:a.m≠0):a.jd=iA a.m+a.e:=by unfold Dy.jd;rw[bl a0]
structure ZW(a b:Dy)(p:Nat):Prop where
 lo:-17000<=jv a b p
 hi:jv a b p<=16384
 x:iA (nG a b p)<=4100
 x0:nG a b p≠0
 sh:(a.e-jv a b p).toNat<=60000
 sh2:(b.e-jv a b p).toNat<=60000
 sh3:(jv a b p-b.e).toNat<=60000
 y:iA (mN b (jv a b p))<=4100
 l:nx b (jv a b p)=true->p+8<=iA (nG a b p)/\iA (mN b (jv a b p))+3<=iA (nG a b p)
def J6{a b:Dy}{p:Nat}(ha:a.iu)(hb:b.iu)(a0:a.m≠0)(b0:b.m≠0)(ht:b.jd<=a.jd)(iq:p<=512):ZW a b p:=by
 have ra:=ha.range.resolve_left a0;have rb:=hb.range.resolve_left b0;have ta:=DE a0;have tb:=DE b0;obtain⟨h1,h2,h3⟩:=O4 a b p;have hx:iA (nG a b p)=iA a.m+(a.e-jv a b p).toNat:=qE a0 _;have z8:jv a b p=a.e\/jv a b p=a.jd-p-8\/(a.jd-b.jd<=2/\jv a b p=b.e):=by unfold jv;split<;>omega
 have hy:iA (mN b (jv a b p))<=iA (nG a b p):=by
  unfold mN;split
  .rw [qE b0];omega
  .have:iA (b.m/2^(jv a b p-b.e).toNat)<=iA b.m-(jv a b p-b.e).toNat:=by
    rw[kV,cr (bA aF),<-bw];exact kV.1 aD 
   omega
 have pa:=nj a0;have pb:=nj b0;refine⟨aD,aD,aD,?_,aD,aD,aD,aD,λhl=>?_⟩
 .intro h;unfold nG at h;exact(fe a0 (eO (bA aF))) h
 .obtain ⟨K,d,k1,k2,k3,k4,k5,k6,k7⟩:=Pb (p:=p) a0 b0 h1 h2 h3;rcases k7 with rfl|⟨k7,k8⟩
  .rw [k6]at hl;simp[dn]at hl
  .rw [k5];exact⟨k7,k8⟩
def Pv{a b:Dy}{p:Nat}(ha:a.iu)(hb:b.iu)(a0:a.m≠0)(b0:b.m≠0)(ht:b.jd<=a.jd)(iq:p<=512):
 iA (mL a b p)<=4101/\iA (mm a b p)<=4102/\(nc a b p=true->p<iA (mm a b p)):=by
 obtain⟨l1,l2,l3,l4,l5,l6,l7,l8,l9⟩:=J6 ha hb a0 b0 ht iq;have hy:mL a b p<=mN b (jv a b p)+1:=by unfold mL;split<;>omega
 obtain⟨K,hK⟩:∃ K:Nat,K=4100:=⟨_,rfl⟩
 have g1:4101=K+1:= aD ;have g2:4102=K+2:= aD ;rw[g1,g2];rw[<-hK]at l3 l8;have hy4:mN b (jv a b p)<2^K:=kV.1 l8;have hx4:nG a b p<2^K:=kV.1 l3;have e1:(2:Nat)^(K+1)=2*2^K:=by rw[bG];omega
 have e2:(2:Nat)^(K+2)=4*2^K:=by rw[bw];omega
 generalize (2:Nat)^K=Z at *
 refine⟨kV.2 aD,kV.2 ?_,λhl=>?_⟩
 .unfold mm;split
  .omega
  .split<;>omega
 .unfold nc at hl;simp only[bY,gp]at hl;obtain⟨q1,q2⟩:=l9 hl.1;have hX:2^(iA (nG a b p)-1)<=nG a b p:=rk l4;rw[wX];have hY:mN b (jv a b p)<2^(iA (nG a b p)-3):=kV.1 aD;have e3:(2:Nat)^(iA (nG a b p)-1)=4*2^(iA (nG a b p)-3):=by
   rw[(aD:iA (nG a b p)-1=(iA (nG a b p)-3)+2),bw];omega
  have hp:(2:Nat)^p<=2^(iA (nG a b p)-3):=bI aF aD;unfold mm;split
  .omega
  .rename_i hs;unfold oZ at hl;rw[bl (by
    have:=hl.2;simp[hs]at this;omega)]
   omega
def Zb{a b:Dy}{p:Nat}(ha:a.iu)(hb:b.iu)(a0:a.m≠0)(b0:b.m≠0)(up:Bool):
 (mm a b p=0/\nc a b p=false->iJ a b=iQ) /\
 (¬(mm a b p=0/\nc a b p=false)->kf (a.neg != oZ a b p) (mm a b p) (jv a b p) (nc a b p) p up=jG (iJ a b) p up/\jV (a.neg != oZ a b p) (mm a b p) (jv a b p) (nc a b p) p up=jZ (iJ a b) p up):=by
 obtain⟨h1,h2,h3⟩:=O4 a b p;by_cases hs:a.neg=b.neg
 .have hn:(a.neg != b.neg)=false:=by rw[hs];simp
  have e1:oZ a b p=false:=by unfold oZ;rw[hn];rfl
  have e2:nc a b p=nx b (jv a b p):=by unfold nc;rw[e1];simp
  have e3:mm a b p=a.m*2^(a.e-jv a b p).toNat+mN b (jv a b p):=by unfold mm;rw[bn hs];unfold nG mL;rw[hn];simp
  have hx:mm a b p≠0:=by
   rw[e3];have:=fe a0 (eO (bA (n:=(a.e-jv a b p).toNat) (show 0<2 by decide)));omega
  refine⟨λh=>absurd h.1 hx,λ_=>?_⟩;rw[e1,e2,e3];have:=akh ha.canon hb.canon a0 b0 h1 h2 h3 hs up;cases hA:a.neg<;>rw[hA]at this<;>exact this
 .have hn:(a.neg != b.neg)=true:=by simpa using hs
  have eY:mL a b p=mN b (jv a b p)+if nx b (jv a b p)=true then 1 else 0:=by unfold mL;rw[hn];simp
  obtain⟨r1,r2⟩:=akg (p:=p) ha.canon hb.canon a0 b0 h1 h2 h3 hs up;rw[<-eY]at r1 r2;change nG a b p<mL a b p->_ at r1;change mL a b p<=nG a b p->_ at r2;by_cases hc:nG a b p<mL a b p
  .have e1:oZ a b p=true:=by unfold oZ;rw[hn,bq hc];rfl
   have e2:nc a b p=false:=by unfold nc;rw[e1];simp
   have e3:mm a b p=mL a b p-nG a b p:=by unfold mm;rw[bl hs,bn hc]
   rw[e1,e2,e3];refine⟨λh=> aD,λ_=>?_⟩;have:=r1 hc;cases hA:a.neg<;>rw[hA]at this<;>exact this
  .have e1:oZ a b p=false:=by unfold oZ;rw[hn,bt hc];rfl
   have e2:nc a b p=nx b (jv a b p):=by unfold nc;rw[e1];simp
   have e3:mm a b p=nG a b p-mL a b p:=by unfold mm;rw[bl hs,bl hc]
   rw[e1,e2,e3];obtain⟨q1,q2⟩:=r2 aD;refine⟨q1,λh=>?_⟩;have:=q2 h;cases hA:a.neg<;>rw[hA]at this<;>exact this
end Go.Proofs.YtbhhompalmdaiaaGreatDoor.Fp
namespace Go.Proofs.YtbhhompalmdaiaaGreatDoor
open Go.RowKit Fp
def KM(a b:Nat):iA (a*b)<=iA a+iA b:=by
 rw[kV,bw];exact gY (pE a) (pE b)
def ajQ(a:Dy)(A:Option Addr)(c:Nat)(w:World)(h:Sl w A c (ij a.m))(ha:a.iu):
 Calls prog 28 #[DV a A c] w λe w'=>e = .returned (.bool true)/\iG w w':=
 JK a.neg A c (ij a.m) a.e w true h (by have:=ha.exp;omega) (by have:=ha.exp;omega) (by simp[ha.uX])
def ajL(a:Dy)(A:Option Addr)(c:Nat)(w:World)(h:Sl w A c (ij a.m)):
 Calls prog 192 #[DV a A c] w λe w'=>e = .returned (.int .i64 a.jh)/\iG w w':=by
 have:=ajK a.neg A c (ij a.m) a.e w h (yg _);rw[jR]at this;exact this
def ajO(a:Dy)(A:Option Addr)(c:Nat)(w:World)(h:Sl w A c (ij a.m))(ha:uM a):
 Calls prog 197 #[DV a A c] w λe w'=>e = .returned (.int .i64 a.jd)/\iG w w':=by
 have:=ajN a.neg A c (ij a.m) a.e w h (yg _) (by have:=ha.len;omega) (by have:=ha.lo;omega) (by have:=ha.hi;omega);rw[jR]at this;exact this
def GU(d:Dy)(A:Option Addr)(c:Nat)(w:World)(hs:Sl w A c (ij d.m))(hl:(ij d.m).length<=100000000)(kZ:-10000000<=d.e)(kF:d.e<=10000000):
 Calls prog 169 #[DV d A c] w (tf w (kY d) (nk d)):=by
 by_cases hd:nu d
 .rw [A7 hd,GW hd];exact Rm d A c w hs hl kZ kF hd
 .rw [K0 hd,GV hd];exact abF d A c w hs hl kZ kF hd
def KU(s:Bool)(m:Nat)(e:Int){n:Nat}(hm:(ij m).length<=n):(ij (canon s m e).m).length<=n/\e<=max (canon s m e).e e/\((canon s m e).e<=max 0 (e+32*n))/\min 0 e<=(canon s m e).e:=by
 unfold canon;by_cases h0:m=0
 .rw [bn h0];simp only[mW];exact⟨ch _,aD,aD,aD⟩
 .rw [bl h0];have h1:kr m<32*n:=by
   have h1:=FT h0;have h2:=uB hm;rw[nF]at h2;exact(am5 (aF:1<2)).1 (cK h1 h2)
  exact⟨bJ (vG (cE _ _)) hm,aD,by simp only;omega,by simp only;omega⟩
def Cq(s:Bool)(m:Nat)(e:Int)(A:Option Addr)(c:Nat)(w:World)(hs:Sl w A c (ij m))(hl:(ij m).length<=256)(kZ:-1000000<=e)(kF:e<=1000000)(kA:Tb w):
 Calls prog 170 #[.bool s,.slice A (ij m).length c,.int .i64 e] w (tR w (canon s m e)):=by
 have:=Hf s A c (ij m) e w hs aD (by have:=oF (ij m);unfold mn at this;omega) kZ kF kA;rw[jR]at this;exact this
def NS{m:Nat}(h:m=0):(((ij m).length:Int)==0)=true:=by rw[h,mW];rfl
def Jy{m:Nat}(h:m≠0):(((ij m).length:Int)==0)=false:=by
 refine bd ?_;have:ij m≠[]:=λe=>h (VU.1 e)
 have:=eZ.2 this;omega
def acG(a b:Dy)(A B:Option Addr)(c d:Nat)(w:World)(_hs:Sl w A c (ij a.m))(hr:Sl w B d (ij b.m))(kA:Tb w)(hb:b.iu)(h0:a.m=0):
 Calls prog 237 #[DV a A c,DV b B d] w (tf w (kY (iJ a b)) (nk (iJ a b))):=by
 have vC:iJ a b=b:=by unfold iJ;rw[bn h0]
 rw[vC,A7 hb.range,GW hb.range];have hl:=hb.len;obtain⟨kZ,kF⟩:=hb.exp;have HC:=anQ (λw (h:Sl w B d (ij b.m)) (ht:Tb w)=>Cq b.neg b.m b.e B d w h hl aD aD ht);rw[hb.canon.Co]at HC;have n0:=NS h0;clear vC h0;have hE:=((iG.alloc w (.cells #[.bool b.neg,.slice B ((ij b.m).length) d,.int .i64 b.e] 28)).trans (iG.alloc (w.alloc (.cells #[.bool b.neg,.slice B ((ij b.m).length) d,.int .i64 b.e] 28)) (.cells #[.bool b.neg,.slice B ((ij b.m).length) d,.int .i64 b.e] 28))).trans (iG.alloc ((w.alloc (.cells #[.bool b.neg,.slice B ((ij b.m).length) d,.int .i64 b.e] 28)).alloc (.cells #[.bool b.neg,.slice B ((ij b.m).length) d,.int .i64 b.e] 28)) (.cells #[.bool false,.slice none 0 0,.int .i64 0] 28));have b1:=((jq.pj (W:=w) (g:=w.heap.size) aJ b.neg B ((ij b.m).length) d b.e).alloc (.cells #[.bool b.neg,.slice B ((ij b.m).length) d,.int .i64 b.e] 28)).alloc (.cells #[.bool false,.slice none 0 0,.int .i64 0] 28);have b2:=(jq.pj (W:=(w.alloc (.cells #[.bool b.neg,.slice B ((ij b.m).length) d,.int .i64 b.e] 28))) (g:=w.heap.size+1) aJ b.neg B ((ij b.m).length) d b.e).alloc (.cells #[.bool false,.slice none 0 0,.int .i64 0] 28);have b3:=jq.pj (W:=((w.alloc (.cells #[.bool b.neg,.slice B ((ij b.m).length) d,.int .i64 b.e] 28)).alloc (.cells #[.bool b.neg,.slice B ((ij b.m).length) d,.int .i64 b.e] 28))) (g:=w.heap.size+2) aJ false none 0 0 0;replace hr:=hr.below hE;replace kA:=kA.below hE;go_enter func237,ntmps237;go_wp2_with fail
 (with_reducible refine(HC.out _ hr kA).mono ?_)
 rintro r w1 ⟨A_h4,c_h4,rfl,h4,hb⟩;replace hE:=hE.trans hb;replace hr:=hr.below hb;replace kA:=kA.below hb;replace b1:=b1.ext hb;replace b2:=b2.ext hb;replace b3:=b3.ext hb;clear hb;have Gq:=b3.c0;have yb30:=b3.fr 0;have Gr:=b3.c1;have yb31:=b3.fr 1;have Gs:=b3.c2;have yb32:=b3.fr 2;go_wp2;exact uZ (d:=b) rfl rfl rfl rfl (b3.set _ _ _ _ _) rfl (b3.qi h4 _ _ _ _ _) (jq.pW hE aD _ _ _ _ _)
def acH(a b:Dy)(A B:Option Addr)(c d:Nat)(w:World)(hs:Sl w A c (ij a.m))(kA:Tb w)(ha:a.iu)(h1:a.m≠0)(h0:b.m=0):
 Calls prog 237 #[DV a A c,DV b B d] w (tf w (kY (iJ a b)) (nk (iJ a b))):=by
 have vC:iJ a b=a:=by unfold iJ;rw[bl h1,bn h0]
 rw[vC,A7 ha.range,GW ha.range];have hl:=ha.len;obtain⟨kZ,kF⟩:=ha.exp;have HC:=anQ (λw (h:Sl w A c (ij a.m)) (ht:Tb w)=>Cq a.neg a.m a.e A c w h hl aD aD ht);rw[ha.canon.Co]at HC;have n0:=NS h0;have n1:=Jy h1;clear vC h0 h1;have hE:=((iG.alloc w (.cells #[.bool a.neg,.slice A ((ij a.m).length) c,.int .i64 a.e] 28)).trans (iG.alloc (w.alloc (.cells #[.bool a.neg,.slice A ((ij a.m).length) c,.int .i64 a.e] 28)) (.cells #[.bool b.neg,.slice B ((ij b.m).length) d,.int .i64 b.e] 28))).trans (iG.alloc ((w.alloc (.cells #[.bool a.neg,.slice A ((ij a.m).length) c,.int .i64 a.e] 28)).alloc (.cells #[.bool b.neg,.slice B ((ij b.m).length) d,.int .i64 b.e] 28)) (.cells #[.bool false,.slice none 0 0,.int .i64 0] 28));have b1:=((jq.pj (W:=w) (g:=w.heap.size) aJ a.neg A ((ij a.m).length) c a.e).alloc (.cells #[.bool b.neg,.slice B ((ij b.m).length) d,.int .i64 b.e] 28)).alloc (.cells #[.bool false,.slice none 0 0,.int .i64 0] 28);have b2:=(jq.pj (W:=(w.alloc (.cells #[.bool a.neg,.slice A ((ij a.m).length) c,.int .i64 a.e] 28))) (g:=w.heap.size+1) aJ b.neg B ((ij b.m).length) d b.e).alloc (.cells #[.bool false,.slice none 0 0,.int .i64 0] 28);have b3:=jq.pj (W:=((w.alloc (.cells #[.bool a.neg,.slice A ((ij a.m).length) c,.int .i64 a.e] 28)).alloc (.cells #[.bool b.neg,.slice B ((ij b.m).length) d,.int .i64 b.e] 28))) (g:=w.heap.size+2) aJ false none 0 0 0;replace hs:=hs.below hE;replace kA:=kA.below hE;go_enter func237,ntmps237;go_wp2_with fail
 (with_reducible refine(HC.out _ hs kA).mono ?_)
 rintro r w1 ⟨A_h4,c_h4,rfl,h4,hb⟩;replace hE:=hE.trans hb;replace hs:=hs.below hb;replace kA:=kA.below hb;replace b1:=b1.ext hb;replace b2:=b2.ext hb;replace b3:=b3.ext hb;clear hb;have Gq:=b3.c0;have yb30:=b3.fr 0;have Gr:=b3.c1;have yb31:=b3.fr 1;have Gs:=b3.c2;have yb32:=b3.fr 2;go_wp2;exact uZ (d:=a) rfl rfl rfl rfl (b3.set _ _ _ _ _) rfl (b3.qi h4 _ _ _ _ _) (jq.pW hE aD _ _ _ _ _)
def Ll(a:Dy)(A:Option Addr)(c:Nat)(w:World)(h:Sl w A c (ij a.m))(ha:a.iu):
 Calls prog 154 #[DV a A c] w λe w'=>e = .returned (.int .i64 a.jd)/\iG w w':=by
 have:=Lj a.neg A c (ij a.m) a.e w h ha.uX;rw[jR]at this;exact this
def Qa(L:List Nat)(w:World)(v:Value):Prop:=∃ A c,v = .slice A L.length c/\Sl w A c L
def ams{fn:Func}{p t:Tmp}(h:fn.results = #[.cell p 28,.tmp t]){a:Act}{w W:World}{k:Int}{g:Nat}
 (hp:a.tmps.getD p undef = .pointer (some ⟨g,0,none⟩)) (ht:a.tmps.getD t undef = .int .i64 k) (hd:a.defers=[]) (hb:jq W g false none 0 0 0) (he:iG w W):
 bodyPost prog fn (tf w iQ k) .ret a W:=
 uZ (d:=iQ) h hp ht hd hb (by rw[show iQ.m=0 from rfl,mW];rfl) (by rw[show iQ.m=0 from rfl,mW];exact Sl.nil _) he
set_option maxRecDepth 100000 in
set_option maxHeartbeats 8000000 in
def acI(a b:Dy)(A B:Option Addr)(c d:Nat)(w:World)(hs:Sl w A c (ij a.m))(hr:Sl w B d (ij b.m))(kA:Tb w)(ha:a.iu)(hb:b.iu)(a0:a.m≠0)(b0:b.m≠0):
  Calls prog 237 #[DV a A c,DV b B d] w (tf w (kY (iJ a b)) (nk (iJ a b))):=by
 have n1:=Jy a0;have n2:=Jy b0;have la:=ha.len;have lb:=hb.len;obtain⟨ea1,ea2⟩:=ha.exp;obtain⟨eb1,eb2⟩:=hb.exp;obtain⟨k,hk⟩:∃ k,min a.e b.e=k:=⟨_,rfl⟩
 have UD:k<=a.e:= aD ;have UE:k<=b.e:= aD ;have lW:-16384<=k:= aD ;have qY:k<=16384:= aD ;have HTa:=anQ (λw (h:Sl w A c (ij a.m))=>Ll a A c w h ha);have HTb:=anQ (λw (h:Sl w B d (ij b.m))=>Ll b B d w h hb);have HBIG:=anQ (λh1 h2=>alf ha hb a0 b0 hk h1 h2);have HFIT:=anQ (λh=>alh ha hb a0 b0 hk h);have HS1:=anQ (λ(h:a.neg=b.neg)=>show iJ a b=canon a.neg (a.m*2^(a.e-k).toNat+b.m*2^(b.e-k).toNat) k from by
  have:=Y6 (s:=a.neg) a0 b0 hk;rw[<-this,show(⟨a.neg,b.m,b.e⟩:Dy)=b by rw[h]])
 have HS2:=anQ (λ(h:a.neg≠b.neg) (qW:b.m*2^(b.e-k).toNat<=a.m*2^(a.e-k).toNat)=>Y4 a0 b0 hk h qW);have HS3:=anQ (λ(h:a.neg≠b.neg) (qW:a.m*2^(a.e-k).toNat<b.m*2^(b.e-k).toNat)=>Y5 a0 b0 hk h qW);have CU:-16384<=a.jd/\a.jd<=16384:=by unfold Dy.jd;rw[bl a0];have:=ha.Zo a0;omega
 have htb:-16384<=b.jd/\b.jd<=16384:=by unfold Dy.jd;rw[bl b0];have:=hb.Zo b0;omega
 obtain⟨amI,amJ⟩:=CU;obtain⟨amK,amL⟩:=htb;obtain⟨S,hS⟩:∃ S,iJ a b=S:=⟨_,rfl⟩
 rw[hS]at HBIG HS1 ⊢;have HS2:=anQ (λh h'=>hS▸HS2.out h h');have HS3:=anQ (λh h'=>hS▸HS3.out h h');have HXa:=anQ (λw (h:Sl w A c (ij a.m)) (hf:(ij (a.m*2^(a.e-k).toNat)).length<=256)=>J0 A c (ij a.m) (a.e-k) w h la aD aD (by rw[jR];exact hf));have HXb:=anQ (λw (h:Sl w B d (ij b.m)) (hf:(ij (b.m*2^(b.e-k).toNat)).length<=256)=>J0 B d (ij b.m) (b.e-k) w h lb aD aD (by rw[jR];exact hf));rw[jR]at HXa HXb;generalize a.m*2^(a.e-k).toNat=x at *
 generalize b.m*2^(b.e-k).toNat=y at *
 generalize a.jd=ta at *
 generalize b.jd=tb at *
 obtain⟨mx,UI⟩:∃ mx,max ta tb=mx:=⟨_,rfl⟩
 have IA:-16384<=mx/\mx<=16384:= aD ;obtain⟨IA,vv⟩:=IA;rw[UI]at HBIG HFIT;have aeP:=kA;have um:=hs;have uk:=hr;clear a0 b0 hS;have hE:=((iG.alloc w (.cells #[.bool a.neg,.slice A ((ij a.m).length) c,.int .i64 a.e] 28)).trans (iG.alloc (w.alloc (.cells #[.bool a.neg,.slice A ((ij a.m).length) c,.int .i64 a.e] 28)) (.cells #[.bool b.neg,.slice B ((ij b.m).length) d,.int .i64 b.e] 28))).trans (iG.alloc ((w.alloc (.cells #[.bool a.neg,.slice A ((ij a.m).length) c,.int .i64 a.e] 28)).alloc (.cells #[.bool b.neg,.slice B ((ij b.m).length) d,.int .i64 b.e] 28)) (.cells #[.bool false,.slice none 0 0,.int .i64 0] 28));have b1:=((jq.pj (W:=w) (g:=w.heap.size) aJ a.neg A ((ij a.m).length) c a.e).alloc (.cells #[.bool b.neg,.slice B ((ij b.m).length) d,.int .i64 b.e] 28)).alloc (.cells #[.bool false,.slice none 0 0,.int .i64 0] 28);have b2:=(jq.pj (W:=(w.alloc (.cells #[.bool a.neg,.slice A ((ij a.m).length) c,.int .i64 a.e] 28))) (g:=w.heap.size+1) aJ b.neg B ((ij b.m).length) d b.e).alloc (.cells #[.bool false,.slice none 0 0,.int .i64 0] 28);have b3:=jq.pj (W:=((w.alloc (.cells #[.bool a.neg,.slice A ((ij a.m).length) c,.int .i64 a.e] 28)).alloc (.cells #[.bool b.neg,.slice B ((ij b.m).length) d,.int .i64 b.e] 28))) (g:=w.heap.size+2) aJ false none 0 0 0;replace hs:=hs.below hE;replace hr:=hr.below hE;replace kA:=kA.below hE;go_enter func237,ntmps237;have nM:=b1.c0;have nN:=b1.c1;have nO:=b1.c2
 have sL:=b2.c0;have sN:=b2.c1;have sO:=b2.c2;go_upto_region 6 with fail;clear nM nN nO sL sN sO;obtain⟨W1,hW⟩:∃ W,(((w.alloc (.cells #[.bool a.neg,.slice A ((ij a.m).length) c,.int .i64 a.e] 28)).alloc (.cells #[.bool b.neg,.slice B ((ij b.m).length) d,.int .i64 b.e] 28)).alloc (.cells #[.bool false,.slice none 0 0,.int .i64 0] 28))=W:=⟨_,rfl⟩
 rw[hW]at hs hr kA b1 b2 b3 hE ⊢;clear hW;go_cut [7,8] (λs0 s1 wx=>s0=(.int .i64 ta)/\s1=(.int .i64 tb)/\iG W1 wx)
 case first=>
  have b1':=b1.drew;have b2':=b2.drew;have mQ:=hs.drew;have r8:=hr.drew;go_region_held3 (λw'=>w'.cell? ⟨w.heap.size,0,none⟩=some (.bool a.neg)/\w'.cell? ⟨w.heap.size,1,none⟩=some (.slice A ((ij a.m).length) c)/\w'.cell? ⟨w.heap.size,2,none⟩=some (.int .i64 a.e)/\w'.cell? ⟨w.heap.size+1,0,none⟩=some (.bool b.neg)/\w'.cell? ⟨w.heap.size+1,1,none⟩=some (.slice B ((ij b.m).length) d)/\w'.cell? ⟨w.heap.size+1,2,none⟩=some (.int .i64 b.e))
   (first|with_reducible exact⟨(b1').c0,(b1').c1,(b1').c2,(b2').c0,(b2').c1,(b2').c2⟩|with_reducible exact⟨(b1'.ext jS).c0,(b1'.ext jS).c1,(b1'.ext jS).c2,(b2'.ext jS).c0,(b2'.ext jS).c1,(b2'.ext jS).c2⟩|with_reducible exact⟨(b1'.ext jt).c0,(b1'.ext jt).c1,(b1'.ext jt).c2,(b2'.ext jt).c0,(b2'.ext jt).c1,(b2'.ext jt).c2⟩|with_reducible exact⟨(b1'.ext (jS.trans jt)).c0,(b1'.ext (jS.trans jt)).c1,(b1'.ext (jS.trans jt)).c2,(b2'.ext (jS.trans jt)).c0,(b2'.ext (jS.trans jt)).c1,(b2'.ext (jS.trans jt)).c2⟩|with_reducible exact⟨(b1'.ext (jt.trans jS)).c0,(b1'.ext (jt.trans jS)).c1,(b1'.ext (jt.trans jS)).c2,(b2'.ext (jt.trans jS)).c0,(b2'.ext (jt.trans jS)).c1,(b2'.ext (jt.trans jS)).c2⟩)
   (first
    | (go_at_call_of 154 (Value.agg #[.bool a.neg,.slice A (ij a.m).length c,.int .i64 a.e]);(first|(with_reducible refine(HTa.out _ mQ).mono ?_)|(with_reducible refine(HTa.out _ (mQ.below jt)).mono ?_));rintro r wx0 ⟨rfl,jS⟩)
    | (go_at_call_of 154 (Value.agg #[.bool b.neg,.slice B (ij b.m).length d,.int .i64 b.e]);(first|(with_reducible refine(HTb.out _ r8).mono ?_)|(with_reducible refine(HTb.out _ (r8.below jS)).mono ?_));rintro r wx1 ⟨rfl,jt⟩))
  all_goals (go_wp2_with fail;go_meet;(first|exact⟨rfl,rfl,(iG.drew _).trans (jS.trans jt)⟩|exact⟨rfl,rfl,(iG.drew _).trans (jt.trans jS)⟩))
 obtain⟨rfl,rfl,hb⟩:=hcut;replace hE:=hE.trans hb;replace hs:=hs.below hb;replace hr:=hr.below hb;replace kA:=kA.below hb;replace b1:=b1.ext hb;replace b2:=b2.ext hb;replace b3:=b3.ext hb;clear hb;go_upto_region 7 with fail;go_cut [63] (λs wx=>s = .bool (decide (4097<mx-k/\(1<ta-tb\/1<tb-ta)))/\wx=wc)
 case first=>
  by_cases c1:4097<mx-k
  .by_cases c2:1<ta-tb
   .go_wp2;go_meet;exact⟨congrArg Value.bool (bq ⟨c1,.inl c2⟩).symm,rfl⟩
   .by_cases c3:1<tb-ta
    .go_wp2;go_meet;exact⟨congrArg Value.bool (bq ⟨c1,.inr c3⟩).symm,rfl⟩
    .go_wp2;go_meet;exact⟨congrArg Value.bool (bt aD).symm,rfl⟩
  .go_wp2;go_meet;exact⟨congrArg Value.bool (bt aD).symm,rfl⟩
 obtain⟨rfl,hwc⟩:=hcut;subst hwc;by_cases hB:4097<mx-k/\(1<ta-tb\/1<tb-ta)
 .have hd:decide (4097<mx-k/\(1<ta-tb\/1<tb-ta))=true:=bq hB;have mG:=anQ (HBIG.out hB.1 hB.2);rw[hd];clear hB hd;have Gq:=b3.c0;have yb30:=b3.fr 0;have Gr:=b3.c1;have yb31:=b3.fr 1;have Gs:=b3.c2;have yb32:=b3.fr 2;go_wp2;rw[K0 mG.out,GV mG.out];exact ams rfl rfl rfl rfl (b3.set _ _ _ _ _) (jq.pW hE aD _ _ _ _ _)
 .have hd:decide (4097<mx-k/\(1<ta-tb\/1<tb-ta))=false:=bt hB;obtain⟨xH,M6⟩:=HFIT.out hB;have HXY:=anQ (yY (k:=129) (bJ (aaZ xH M6) aF));have ux:=yY (k:=129) (bJ xH aF);have IS:=yY (k:=129) (bJ M6 aF);have HXa2:=anQ (λw h=>HXa.out w h aD);have HXb2:=anQ (λw h=>HXb.out w h aD);rw[hd];clear hB hd xH M6 UI HBIG HFIT HXa HXb HTa HTb;have M4:IntKind.i64.wrap (a.e-k)=a.e-k:=i64_in _ aD aD;have hwf:IntKind.i64.wrap (b.e-k)=b.e-k:=i64_in _ aD aD;have nM:=b1.c0;have nN:=b1.c1;have nO:=b1.c2;have sL:=b2.c0;have sN:=b2.c1;have sO:=b2.c2;go_upto_region 9 with fail;clear nM nN nO sL sN sO;go_cut [9,10] (λs0 s1 wx=>Qa (ij x) wx s0/\Qa (ij y) wx s1/\iG wc wx)
  case first=>
   have b1':=b1.drew;have b2':=b2.drew;have mQ:=hs.drew;have r8:=hr.drew;go_region_held3 (λw'=>w'.cell? ⟨w.heap.size,0,none⟩=some (.bool a.neg)/\w'.cell? ⟨w.heap.size,1,none⟩=some (.slice A ((ij a.m).length) c)/\w'.cell? ⟨w.heap.size,2,none⟩=some (.int .i64 a.e)/\w'.cell? ⟨w.heap.size+1,0,none⟩=some (.bool b.neg)/\w'.cell? ⟨w.heap.size+1,1,none⟩=some (.slice B ((ij b.m).length) d)/\w'.cell? ⟨w.heap.size+1,2,none⟩=some (.int .i64 b.e))
    (first|with_reducible exact⟨(b1').c0,(b1').c1,(b1').c2,(b2').c0,(b2').c1,(b2').c2⟩|with_reducible exact⟨(b1'.ext jS).c0,(b1'.ext jS).c1,(b1'.ext jS).c2,(b2'.ext jS).c0,(b2'.ext jS).c1,(b2'.ext jS).c2⟩|with_reducible exact⟨(b1'.ext jt).c0,(b1'.ext jt).c1,(b1'.ext jt).c2,(b2'.ext jt).c0,(b2'.ext jt).c1,(b2'.ext jt).c2⟩|with_reducible exact⟨(b1'.ext (jS.trans jt)).c0,(b1'.ext (jS.trans jt)).c1,(b1'.ext (jS.trans jt)).c2,(b2'.ext (jS.trans jt)).c0,(b2'.ext (jS.trans jt)).c1,(b2'.ext (jS.trans jt)).c2⟩|with_reducible exact⟨(b1'.ext (jt.trans jS)).c0,(b1'.ext (jt.trans jS)).c1,(b1'.ext (jt.trans jS)).c2,(b2'.ext (jt.trans jS)).c0,(b2'.ext (jt.trans jS)).c1,(b2'.ext (jt.trans jS)).c2⟩)
    (first
     | (go_at_call_of 213 (Value.slice A (ij a.m).length c);(first|(with_reducible refine(HXa2.out _ mQ).mono ?_)|(with_reducible refine(HXa2.out _ (mQ.below jt)).mono ?_));rintro r wx0 ⟨A0,c0,rfl,rC,jS⟩)
     | (go_at_call_of 213 (Value.slice B (ij b.m).length d);(first|(with_reducible refine(HXb2.out _ r8).mono ?_)|(with_reducible refine(HXb2.out _ (r8.below jS)).mono ?_));rintro r wx1 ⟨A1,c1,rfl,oW,jt⟩))
   all_goals (go_wp2_with fail;go_meet;(first|exact⟨⟨_,_,rfl,rC.below jt⟩,⟨_,_,rfl,oW⟩,(iG.drew _).trans (jS.trans jt)⟩|exact⟨⟨_,_,rfl,rC⟩,⟨_,_,rfl,oW.below jS⟩,(iG.drew _).trans (jt.trans jS)⟩))
  obtain⟨⟨A_hx,c_hx,rfl,hx⟩,⟨A_hy,c_hy,rfl,hy⟩,hb⟩:=hcut;replace hE:=hE.trans hb;replace hs:=hs.below hb;replace hr:=hr.below hb;replace kA:=kA.below hb;replace b1:=b1.ext hb;replace b2:=b2.ext hb;replace b3:=b3.ext hb;clear hb;have HA:=anQ (λw A c B d (h:Sl w A c (ij x)) (k:Sl w B d (ij y))=>Wy A B c d (ij x) (ij y) w h k aD aD (by rw[jR,jR];exact bJ HXY.out aF));rw[jR,jR]at HA;by_cases hn:a.neg=b.neg
  .have e1:(a.neg==b.neg)=true:=by rw[hn];exact ado _
   have hD:=anQ (HS1.out hn);have HO:=anQ (λw A c (h:Sl w A c (ij (x+y))) (ht:Tb w)=>Cq a.neg (x+y) k A c w h (bJ HXY.out aF) aD aD ht);clear hn;have zW:=KU a.neg (x+y) k HXY.out;have HK:=anQ (λw A c (h:Sl w A c (ij (canon a.neg (x+y) k).m))=>GU (canon a.neg (x+y) k) A c w h aD aD aD);generalize canon a.neg (x+y) k=D at *
   clear zW HS1 HS2 HS3;have nM:=b1.c0;have nN:=b1.c1;have nO:=b1.c2;have sL:=b2.c0;have sN:=b2.c1;have sO:=b2.c2;go_wp2_with fail
   (with_reducible refine(HA.out _ _ _ _ _ hx hy).mono ?_)
   rintro r w2 ⟨A3,c3,rfl,h3,hb⟩;clear nM nN nO sL sN sO;replace hE:=hE.trans hb;replace hs:=hs.below hb;replace hr:=hr.below hb;replace kA:=kA.below hb;replace hx:=hx.below hb;replace hy:=hy.below hb;replace b1:=b1.ext hb;replace b2:=b2.ext hb;replace b3:=b3.ext hb;clear hb;have nM:=b1.c0;have nN:=b1.c1;have nO:=b1.c2;go_wp2_with fail
   (with_reducible refine(HO.out _ _ _ h3 kA).mono ?_)
   rintro r w3 ⟨A_h4,c_h4,rfl,h4,hb⟩;clear nM nN nO;replace hE:=hE.trans hb;replace hs:=hs.below hb;replace hr:=hr.below hb;replace kA:=kA.below hb;replace hx:=hx.below hb;replace hy:=hy.below hb;replace h3:=h3.below hb;replace b1:=b1.ext hb;replace b2:=b2.ext hb;replace b3:=b3.ext hb;clear hb;have nM:=b1.c0;have nN:=b1.c1;have nO:=b1.c2;go_wp2_with fail
   (with_reducible refine(HK.out _ _ _ h4).mono ?_)
   rintro r w4 ⟨A_h5,c_h5,rfl,h5,hb⟩;clear nM nN nO;replace hE:=hE.trans hb;replace hs:=hs.below hb;replace hr:=hr.below hb;replace kA:=kA.below hb;replace hx:=hx.below hb;replace hy:=hy.below hb;replace h3:=h3.below hb;replace h4:=h4.below hb;replace b1:=b1.ext hb;replace b2:=b2.ext hb;replace b3:=b3.ext hb;clear hb;have Gq:=b3.c0;have yb30:=b3.fr 0;have Gr:=b3.c1;have yb31:=b3.fr 1;have Gs:=b3.c2;have yb32:=b3.fr 2;go_wp2;rw[hD.out];exact uZ (d:=(kY D)) rfl rfl rfl rfl (b3.set _ _ _ _ _) rfl (b3.qi h5 _ _ _ _ _) (jq.pW hE aD _ _ _ _ _)
  .have e1:(a.neg==b.neg)=false:=bd hn;have HC:=anQ (λw A c B d (h:Sl w A c (ij x)) (k:Sl w B d (ij y))=>FD A B c d (ij x) (ij y) w h k aD aD);rw[jR,jR]at HC;by_cases iO:x<y
   .have hD:=anQ (HS3.out hn iO);have d0:decide (kD x y<0)=true:=by unfold kD;rw[bn iO];rfl
    have HSb:=anQ (λw A c B d (h:Sl w A c (ij y)) (k:Sl w B d (ij x))=>NQ A B c d (ij y) (ij x) w h k aD aD (by rw[jR,jR];omega));rw[jR,jR]at HSb;have CY:=bJ (vG (dS y x)) IS;have HO:=anQ (λw A c (h:Sl w A c (ij (y-x))) (ht:Tb w)=>Cq b.neg (y-x) k A c w h aD aD aD ht);have zW:=KU b.neg (y-x) k CY;have HK:=anQ (λw A c (h:Sl w A c (ij (canon b.neg (y-x) k).m))=>GU (canon b.neg (y-x) k) A c w h aD aD aD);generalize canon b.neg (y-x) k=D at *
    generalize kD x y=q at *
    clear zW HS1 HS2 HS3 hn iO CY HA;have nM:=b1.c0;have nN:=b1.c1;have nO:=b1.c2;have sL:=b2.c0;have sN:=b2.c1;have sO:=b2.c2;go_wp2_with fail
    (with_reducible refine(HC.out _ _ _ _ _ hx hy).mono ?_)
    rintro r w2 ⟨rfl,hb⟩;clear nM nN nO sL sN sO;replace hE:=hE.trans hb;replace hs:=hs.below hb;replace hr:=hr.below hb;replace kA:=kA.below hb;replace hx:=hx.below hb;replace hy:=hy.below hb;replace b1:=b1.ext hb;replace b2:=b2.ext hb;replace b3:=b3.ext hb;clear hb;have CL:w.heap.size<=w.heap.size:=bp _;have nM:=b1.c0;have nN:=b1.c1;have nO:=b1.c2;have sL:=b2.c0;have sN:=b2.c1;have sO:=b2.c2;have fb0:=b1.fr 0;have fb1:=b1.fr 1;have fb2:=b1.fr 2;have hx:=b1.qi hx b.neg b.e (ij b.m).length d B;have hy:=b1.qi hy b.neg b.e (ij b.m).length d B;have hE:=jq.pW hE (bp _) b.neg B (ij b.m).length d b.e;have b3:=b3.xy (g':=w.heap.size) aD (.bool b.neg) (.slice B (ij b.m).length d) (.int .i64 b.e);have b1:=b1.set b.neg B (ij b.m).length d b.e;have kA:=aeP.below hE;clear hs hr b2;go_wp2_with fail
    (with_reducible refine(HSb.out _ _ _ _ _ hy hx).mono ?_)
    rintro r w3 ⟨A3,c3,rfl,h3,hb⟩;clear nM nN nO sL sN sO;replace hE:=hE.trans hb;replace kA:=kA.below hb;replace hx:=hx.below hb;replace hy:=hy.below hb;replace b1:=b1.ext hb;replace b3:=b3.ext hb;clear hb;have nM:=b1.c0;have nN:=b1.c1;have nO:=b1.c2;go_wp2_with fail
    (with_reducible refine(HO.out _ _ _ h3 kA).mono ?_)
    rintro r w4 ⟨A_h4,c_h4,rfl,h4,hb⟩;clear nM nN nO;replace hE:=hE.trans hb;replace kA:=kA.below hb;replace hx:=hx.below hb;replace hy:=hy.below hb;replace h3:=h3.below hb;replace b1:=b1.ext hb;replace b3:=b3.ext hb;clear hb;have nM:=b1.c0;have nN:=b1.c1;have nO:=b1.c2;go_wp2_with fail
    (with_reducible refine(HK.out _ _ _ h4).mono ?_)
    rintro r w5 ⟨A_h5,c_h5,rfl,h5,hb⟩;clear nM nN nO;replace hE:=hE.trans hb;replace kA:=kA.below hb;replace hx:=hx.below hb;replace hy:=hy.below hb;replace h3:=h3.below hb;replace h4:=h4.below hb;replace b1:=b1.ext hb;replace b3:=b3.ext hb;clear hb;have Gq:=b3.c0;have yb30:=b3.fr 0;have Gr:=b3.c1;have yb31:=b3.fr 1;have Gs:=b3.c2;have yb32:=b3.fr 2;go_wp2;rw[hD.out];exact uZ (d:=(kY D)) rfl rfl rfl rfl (b3.set _ _ _ _ _) rfl (b3.qi h5 _ _ _ _ _) (jq.pW hE aD _ _ _ _ _)
   .have hD:=anQ (HS2.out hn aD);have d0:decide (kD x y<0)=false:=by unfold kD;rw[bl iO];split<;>rfl
    have HSb:=anQ (λw A c B d (h:Sl w A c (ij x)) (k:Sl w B d (ij y))=>NQ A B c d (ij x) (ij y) w h k aD aD (by rw[jR,jR];omega));rw[jR,jR]at HSb;have CY:=bJ (vG (dS x y)) ux;have HO:=anQ (λw A c (h:Sl w A c (ij (x-y))) (ht:Tb w)=>Cq a.neg (x-y) k A c w h aD aD aD ht);have zW:=KU a.neg (x-y) k CY;have HK:=anQ (λw A c (h:Sl w A c (ij (canon a.neg (x-y) k).m))=>GU (canon a.neg (x-y) k) A c w h aD aD aD);generalize canon a.neg (x-y) k=D at *
    generalize kD x y=q at *
    clear zW HS1 HS2 HS3 hn iO CY HA;have nM:=b1.c0;have nN:=b1.c1;have nO:=b1.c2;have sL:=b2.c0;have sN:=b2.c1;have sO:=b2.c2;go_wp2_with fail
    (with_reducible refine(HC.out _ _ _ _ _ hx hy).mono ?_)
    rintro r w2 ⟨rfl,hb⟩;clear nM nN nO sL sN sO;replace hE:=hE.trans hb;replace hs:=hs.below hb;replace hr:=hr.below hb;replace kA:=kA.below hb;replace hx:=hx.below hb;replace hy:=hy.below hb;replace b1:=b1.ext hb;replace b2:=b2.ext hb;replace b3:=b3.ext hb;clear hb;go_wp2_with fail
    (with_reducible refine(HSb.out _ _ _ _ _ hx hy).mono ?_)
    rintro r w3 ⟨A3,c3,rfl,h3,hb⟩;replace hE:=hE.trans hb;replace hs:=hs.below hb;replace hr:=hr.below hb;replace kA:=kA.below hb;replace hx:=hx.below hb;replace hy:=hy.below hb;replace b1:=b1.ext hb;replace b2:=b2.ext hb;replace b3:=b3.ext hb;clear hb;have nM:=b1.c0;have nN:=b1.c1;have nO:=b1.c2;go_wp2_with fail
    (with_reducible refine(HO.out _ _ _ h3 kA).mono ?_)
    rintro r w4 ⟨A_h4,c_h4,rfl,h4,hb⟩;clear nM nN nO;replace hE:=hE.trans hb;replace hs:=hs.below hb;replace hr:=hr.below hb;replace kA:=kA.below hb;replace hx:=hx.below hb;replace hy:=hy.below hb;replace h3:=h3.below hb;replace b1:=b1.ext hb;replace b2:=b2.ext hb;replace b3:=b3.ext hb;clear hb;have nM:=b1.c0;have nN:=b1.c1;have nO:=b1.c2;go_wp2_with fail
    (with_reducible refine(HK.out _ _ _ h4).mono ?_)
    rintro r w5 ⟨A_h5,c_h5,rfl,h5,hb⟩;clear nM nN nO;replace hE:=hE.trans hb;replace hs:=hs.below hb;replace hr:=hr.below hb;replace kA:=kA.below hb;replace hx:=hx.below hb;replace hy:=hy.below hb;replace h3:=h3.below hb;replace h4:=h4.below hb;replace b1:=b1.ext hb;replace b2:=b2.ext hb;replace b3:=b3.ext hb;clear hb;have Gq:=b3.c0;have yb30:=b3.fr 0;have Gr:=b3.c1;have yb31:=b3.fr 1;have Gs:=b3.c2;have yb32:=b3.fr 2;go_wp2;rw[hD.out];exact uZ (d:=(kY D)) rfl rfl rfl rfl (b3.set _ _ _ _ _) rfl (b3.qi h5 _ _ _ _ _) (jq.pW hE aD _ _ _ _ _)
def Sf(a b:Dy)(A B:Option Addr)(c d:Nat)(w:World)(hs:Sl w A c (ij a.m))(hr:Sl w B d (ij b.m))(kA:Tb w)(ha:a.iu)(hb:b.iu):
 Calls prog 237 #[DV a A c,DV b B d] w (tf w (kY (iJ a b)) (nk (iJ a b))):=by
 by_cases a0:a.m=0
 .exact acG a b A B c d w hs hr kA hb a0
 .by_cases b0:b.m=0
  .exact acH a b A B c d w hs kA ha a0 b0
  .exact acI a b A B c d w hs hr kA ha hb a0 b0
def Sc(a : Dy)(A : Option Addr)(c : Nat)(w : World)(hs : Sl w A c (ij a.m))(ha : a.iu):
    Calls prog 132 #[DV a A c] w (tR w (jf a)) := by
  have HV := anQ (λw (h : Sl w A c (ij a.m)) => Hh a A c w h ha);have hl := ha.len;by_cases h0 : a.m=0
  . have hz : Hid (jf a=iQ) := by
      show jf a=iQ;obtain⟨s,m,e⟩ := a;rcases ha.canon with⟨h1,h2,h3⟩|h1
      . simp only at h1 h2 h3;subst h1 h2 h3;rfl
      . simp only at h0 h1;omega
    have n0 := NS h0;clear h0;have hE := (iG.alloc w (.cells #[.bool a.neg,.slice A ((ij a.m).length) c,.int .i64 a.e] 28)).trans (iG.alloc (w.alloc (.cells #[.bool a.neg,.slice A ((ij a.m).length) c,.int .i64 a.e] 28)) (.cells #[.bool false,.slice none 0 0,.int .i64 0] 28));have b1 := (jq.pj (W := w) (g := w.heap.size) aJ a.neg A ((ij a.m).length) c a.e).alloc (.cells #[.bool false,.slice none 0 0,.int .i64 0] 28);have b2 := jq.pj (W := (w.alloc (.cells #[.bool a.neg,.slice A ((ij a.m).length) c,.int .i64 a.e] 28))) (g := w.heap.size+1) aJ false none 0 0 0;replace hs := hs.below hE;go_enter func132,ntmps132;go_wp2_with fail
    (with_reducible refine(HV.out _ hs).mono ?_)
    rintro r w1 ⟨rfl,hb⟩;replace hE := hE.trans hb;replace hs := hs.below hb;replace b1 := b1.ext hb;replace b2 := b2.ext hb;clear hb;have nM := b1.c0;have nN := b1.c1;have nO := b1.c2;have sL := b2.c0;have yb20 := b2.fr 0;have sN := b2.c1;have yb21 := b2.fr 1;have sO := b2.c2;have yb22 := b2.fr 2;go_wp2;rw[hz.out];exact sU (d := iQ) rfl rfl rfl (b2.set _ _ _ _ _) (by rw[show iQ.m=0 from rfl,mW];rfl) (by rw[show iQ.m=0 from rfl,mW];exact Sl.nil _) (jq.pW hE aD _ _ _ _ _)
  . have n0 := Jy h0
    have HN := anQ (show jf a=⟨!a.neg,a.m,a.e⟩by unfold jf;simp[h0]);have HC := anQ (λw (h : Sl w A c (ij a.m)) => K3 A c (ij a.m) w h aD);clear h0;have hE := (iG.alloc w (.cells #[.bool a.neg,.slice A ((ij a.m).length) c,.int .i64 a.e] 28)).trans (iG.alloc (w.alloc (.cells #[.bool a.neg,.slice A ((ij a.m).length) c,.int .i64 a.e] 28)) (.cells #[.bool false,.slice none 0 0,.int .i64 0] 28));have b1 := (jq.pj (W := w) (g := w.heap.size) aJ a.neg A ((ij a.m).length) c a.e).alloc (.cells #[.bool false,.slice none 0 0,.int .i64 0] 28);have b2 := jq.pj (W := (w.alloc (.cells #[.bool a.neg,.slice A ((ij a.m).length) c,.int .i64 a.e] 28))) (g := w.heap.size+1) aJ false none 0 0 0;replace hs := hs.below hE;go_enter func132,ntmps132;go_wp2_with fail
    (with_reducible refine(HV.out _ hs).mono ?_)
    rintro r w1 ⟨rfl,hb⟩;replace hE := hE.trans hb;replace hs := hs.below hb;replace b1 := b1.ext hb;replace b2 := b2.ext hb;clear hb;have nM := b1.c0;have nN := b1.c1;have nO := b1.c2;clear nM nN nO;have nM := b1.c0;have nN := b1.c1;have nO := b1.c2;go_wp2_with fail;clear nM nN nO;replace hs := hs.drew;replace b1 := b1.drew;replace b2 := b2.drew;replace hE := hE.trans (iG.drew _);go_region_held3 (λw' => w'.cell? ⟨w.heap.size,0,none⟩=some (.bool a.neg)/\w'.cell? ⟨w.heap.size,1,none⟩=some (.slice A ((ij a.m).length) c)/\w'.cell? ⟨w.heap.size,2,none⟩=some (.int .i64 a.e))
      (first|with_reducible exact⟨(b1).c0,(b1).c1,(b1).c2⟩|with_reducible exact⟨(b1.ext jS).c0,(b1.ext jS).c1,(b1.ext jS).c2⟩|with_reducible exact⟨((b1.ext jS).xy (g' := w.heap.size+1) aD _ _ _).c0,((b1.ext jS).xy (g' := w.heap.size+1) aD _ _ _).c1,((b1.ext jS).xy (g' := w.heap.size+1) aD _ _ _).c2⟩)
      (first
        | (go_at_call 220
           (with_reducible refine(HC.out _ hs).mono ?_)
           rintro r wx0 ⟨A_h4,c_h4,rfl,h4,jS⟩;have bz := b2.ext jS;have z0 := bz.c0;have z1 := bz.c1;have z2 := bz.c2;have y0 := bz.fr 0;have y1 := bz.fr 1;have y2 := bz.fr 2))
    replace hE := hE.trans jS;replace hs := hs.below jS;replace b1 := b1.ext jS;replace b2 := b2.ext jS;go_wp2;rw[HN.out];exact sU (d := ⟨!a.neg,a.m,a.e⟩) rfl rfl rfl (bz.set _ _ _ _ _) rfl (bz.qi h4 _ _ _ _ _) (jq.pW hE aD _ _ _ _ _)
def acF(a b : Dy)(A B : Option Addr)(c d : Nat)(w : World)(hs : Sl w A c (ij a.m))(hr : Sl w B d (ij b.m))(kA : Tb w)(ha : a.iu)(hb : b.iu):
    Calls prog 172 #[DV a A c,DV b B d] w (tf w (kY (iJ a (jf b))) (nk (iJ a (jf b)))) := by
  have HVa := anQ (λw (h : Sl w A c (ij a.m)) => Hh a A c w h ha);have HVb := anQ (λw (h : Sl w B d (ij b.m)) => Hh b B d w h hb);have HN := anQ (λw (h : Sl w B d (ij b.m)) => Sc b B d w h hb);have HS := anQ (λw B d (h : Sl w A c (ij a.m)) (k : Sl w B d (ij (jf b).m)) (ht : Tb w) => Sf a (jf b) A B c d w h k ht ha (uE hb));generalize nk (iJ a (jf b))=E at *
  generalize kY (iJ a (jf b))=D at *
  generalize jf b=nb at *
  have hE := ((iG.alloc w (.cells #[.bool a.neg,.slice A ((ij a.m).length) c,.int .i64 a.e] 28)).trans (iG.alloc (w.alloc (.cells #[.bool a.neg,.slice A ((ij a.m).length) c,.int .i64 a.e] 28)) (.cells #[.bool b.neg,.slice B ((ij b.m).length) d,.int .i64 b.e] 28))).trans (iG.alloc ((w.alloc (.cells #[.bool a.neg,.slice A ((ij a.m).length) c,.int .i64 a.e] 28)).alloc (.cells #[.bool b.neg,.slice B ((ij b.m).length) d,.int .i64 b.e] 28)) (.cells #[.bool false,.slice none 0 0,.int .i64 0] 28));have b1 := ((jq.pj (W := w) (g := w.heap.size) aJ a.neg A ((ij a.m).length) c a.e).alloc (.cells #[.bool b.neg,.slice B ((ij b.m).length) d,.int .i64 b.e] 28)).alloc (.cells #[.bool false,.slice none 0 0,.int .i64 0] 28);have b2 := (jq.pj (W := (w.alloc (.cells #[.bool a.neg,.slice A ((ij a.m).length) c,.int .i64 a.e] 28))) (g := w.heap.size+1) aJ b.neg B ((ij b.m).length) d b.e).alloc (.cells #[.bool false,.slice none 0 0,.int .i64 0] 28);have b3 := jq.pj (W := ((w.alloc (.cells #[.bool a.neg,.slice A ((ij a.m).length) c,.int .i64 a.e] 28)).alloc (.cells #[.bool b.neg,.slice B ((ij b.m).length) d,.int .i64 b.e] 28))) (g := w.heap.size+2) aJ false none 0 0 0;replace hs := hs.below hE;replace hr := hr.below hE;replace kA := kA.below hE;go_enter func172,ntmps172;go_wp2_with fail
  (with_reducible refine(HVa.out _ hs).mono ?_)
  rintro r w1 ⟨rfl,hb⟩;replace hE := hE.trans hb;replace hs := hs.below hb;replace hr := hr.below hb;replace kA := kA.below hb;replace b1 := b1.ext hb;replace b2 := b2.ext hb;replace b3 := b3.ext hb;clear hb;have nM := b1.c0;have nN := b1.c1;have nO := b1.c2;have sL := b2.c0;have sN := b2.c1;have sO := b2.c2;go_wp2_with fail
  (with_reducible refine(HVb.out _ hr).mono ?_)
  rintro r w2 ⟨rfl,hb⟩;clear nM nN nO sL sN sO;replace hE := hE.trans hb;replace hs := hs.below hb;replace hr := hr.below hb;replace kA := kA.below hb;replace b1 := b1.ext hb;replace b2 := b2.ext hb;replace b3 := b3.ext hb;clear hb;have nM := b1.c0;have nN := b1.c1;have nO := b1.c2;have sL := b2.c0;have sN := b2.c1;have sO := b2.c2;go_wp2_with fail;clear nM nN nO sL sN sO;replace hs := hs.drew;replace hr := hr.drew;replace kA := kA.drew;replace b1 := b1.drew;replace b2 := b2.drew;replace b3 := b3.drew;replace hE := hE.trans (iG.drew _);go_region_held3 (λw' => w'.cell? ⟨w.heap.size,0,none⟩=some (.bool a.neg)/\w'.cell? ⟨w.heap.size,1,none⟩=some (.slice A ((ij a.m).length) c)/\w'.cell? ⟨w.heap.size,2,none⟩=some (.int .i64 a.e)/\w'.cell? ⟨w.heap.size+1,0,none⟩=some (.bool b.neg)/\w'.cell? ⟨w.heap.size+1,1,none⟩=some (.slice B ((ij b.m).length) d)/\w'.cell? ⟨w.heap.size+1,2,none⟩=some (.int .i64 b.e))
    (first|with_reducible exact⟨(b1).c0,(b1).c1,(b1).c2,(b2).c0,(b2).c1,(b2).c2⟩|with_reducible exact⟨(b1.ext jS).c0,(b1.ext jS).c1,(b1.ext jS).c2,(b2.ext jS).c0,(b2.ext jS).c1,(b2.ext jS).c2⟩|with_reducible exact⟨(b1.ext (jS.trans jt)).c0,(b1.ext (jS.trans jt)).c1,(b1.ext (jS.trans jt)).c2,(b2.ext (jS.trans jt)).c0,(b2.ext (jS.trans jt)).c1,(b2.ext (jS.trans jt)).c2⟩|with_reducible exact⟨((b1.ext (jS.trans jt)).xy (g' := w.heap.size+2) aD _ _ _).c0,((b1.ext (jS.trans jt)).xy (g' := w.heap.size+2) aD _ _ _).c1,((b1.ext (jS.trans jt)).xy (g' := w.heap.size+2) aD _ _ _).c2,((b2.ext (jS.trans jt)).xy (g' := w.heap.size+2) aD _ _ _).c0,((b2.ext (jS.trans jt)).xy (g' := w.heap.size+2) aD _ _ _).c1,((b2.ext (jS.trans jt)).xy (g' := w.heap.size+2) aD _ _ _).c2⟩)
    (first
      | (go_at_call 132
         (with_reducible refine(HN.out _ hr).mono ?_)
         rintro r wx0 ⟨A_h4,c_h4,rfl,h4,jS⟩)
      | (go_at_call 237
         (with_reducible refine(HS.out _ _ _ (hs.below jS) h4 (kA.below jS)).mono ?_)
         rintro r wx1 ⟨A_h5,c_h5,rfl,h5,jt⟩;have bz := b3.ext (jS.trans jt);have z0 := bz.c0;have z1 := bz.c1;have z2 := bz.c2;have y0 := bz.fr 0;have y1 := bz.fr 1;have y2 := bz.fr 2))
  replace h4 := h4.below jt;replace hE := hE.trans (jS.trans jt);replace hs := hs.below (jS.trans jt);replace hr := hr.below (jS.trans jt);replace kA := kA.below (jS.trans jt);replace b1 := b1.ext (jS.trans jt);replace b2 := b2.ext (jS.trans jt);replace b3 := b3.ext (jS.trans jt);go_wp2;exact uZ (d := D) rfl rfl rfl rfl (bz.set _ _ _ _ _) rfl (bz.qi h5 _ _ _ _ _) (jq.pW hE aD _ _ _ _ _)
open Pu
section
variable {f:FuncId} {L M:List Nat} {kj:E}
def FP(hk:iK L)(hc:∀ (vs:Array Value) (w:World),(callFunc f vs).run prog w = .ok (.enter f vs) w)
 {R:Option Addr->Nat->World->Ending->World->Prop} (H:∀ A c w,Sl w A c L->Tb w->Calls prog f #[.slice A L.length c] w (R A c w))
 (hR:∀ (A:Option Addr) (c:Nat) (B:Nat->Prop) w e w',Sl w A c L->(∀ b,B b->b<w.heap.size/\oK w b)->R A c w e w'->∃ v,e = .returned v/\Below w.heap.size w w'/\iR B (λ_=>True) w' kj v):ig f [iw L] kj:=by
 refine⟨hc,λw B vs hK hB hr=>?_⟩;obtain⟨v1,vs,rfl,h1,hr⟩:=hr.my;obtain rfl:=hr.pH;obtain⟨A,c,rfl,s1⟩:=uI hk h1;exact(H A c w s1 hK).mono λe w' h=>hR A c B w e w' s1 hB h
def Jw(hk:iK L){n:Int}(hc:∀ (vs:Array Value) (w:World),(callFunc f vs).run prog w = .ok (.enter f vs) w)
 {R:Option Addr->Nat->World->Ending->World->Prop} (H:∀ A c w,Sl w A c L->Tb w->Calls prog f #[.slice A L.length c,.int .i64 n] w (R A c w))
 (hR:∀ (A:Option Addr) (c:Nat) (B:Nat->Prop) w e w',Sl w A c L->(∀ b,B b->b<w.heap.size/\oK w b)->R A c w e w'->∃ v,e = .returned v/\Below w.heap.size w w'/\iR B (λ_=>True) w' kj v):ig f [iw L,iP n] kj:=by
 refine⟨hc,λw B vs hK hB hr=>?_⟩;obtain⟨v1,vs,rfl,h1,hr⟩:=hr.my;obtain⟨v2,vs,rfl,h2,hr⟩:=hr.my;obtain rfl:=hr.pH;obtain rfl:=iR.kN h2;obtain⟨A,c,rfl,s1⟩:=uI hk h1;exact(H A c w s1 hK).mono λe w' h=>hR A c B w e w' s1 hB h
def BN(hk:iK L)(hm:iK M)(hc:∀ (vs:Array Value) (w:World),(callFunc f vs).run prog w = .ok (.enter f vs) w)
 {R:World->Ending->World->Prop} (H:∀ A c B d w,Sl w A c L->Sl w B d M->Tb w->Calls prog f #[.slice A L.length c,.slice B M.length d] w (R w))
 (hR:∀ (B:Nat->Prop) w e w',(∀ b,B b->b<w.heap.size/\oK w b)->R w e w'->∃ v,e = .returned v/\Below w.heap.size w w'/\iR B (λ_=>True) w' kj v):ig f [iw L,iw M] kj:=by
 refine⟨hc,λw B vs hK hB hr=>?_⟩;obtain⟨v1,vs,rfl,h1,hr⟩:=hr.my;obtain⟨v2,vs,rfl,h2,hr⟩:=hr.my;obtain rfl:=hr.pH;obtain⟨A,c,rfl,s1⟩:=uI hk h1;obtain⟨A',d,rfl,s2⟩:=uI hm h2;exact(H A c A' d w s1 s2 hK).mono λe w' h=>hR B w e w' hB h
end
def Dl{L:List Nat}{n:Int}(B:Nat->Prop)(w:World)(e:Ending)(w':World)(hB:∀ b,B b->b<w.heap.size/\oK w b)(h:Cf w L n e w'):∃ v,e = .returned v/\Below w.heap.size w w'/\iR B (λ_=>True) w' (.iB [iw L,iP n]) v:=
 let⟨_,_,h1,h2,h3⟩:=h
 ⟨_,h1,h3,kB.iB (.cons (zq hB h3 h2) (.cons (.v _) (.nil _ _ _)))⟩
def rl{L:List Nat}(B:Nat->Prop)(w:World)(e:Ending)(w':World)(hB:∀ b,B b->b<w.heap.size/\oK w b)(h:sR w L e w'):∃ v,e = .returned v/\Below w.heap.size w w'/\iR B (λ_=>True) w' (iw L) v:=
 let⟨_,_,h1,h2,h3⟩:=h
 ⟨_,h1,h3,zq hB h3 h2⟩
def y6(L:List Nat)(hk:iK L):ig 229 [iw L] (iw (iy L)):=
 FP hk call229 (λA c w h _=>uD A c L w h) λA c B w e w' h hB ⟨h1,h2⟩=>by subst h2;exact⟨_,h1,Below.refl _ _,zq hB (Below.refl _ _) h.tL⟩
def ahe(L:List Nat)(hk:iK L)(hl:(iy L).length<=256):ig 227 [iw L] (.iB [iw (iy L),iP 0]):=
 FP hk call227 (λA c w h _=>FF A c L w h hl) λA c B w e w' h hB r=>Dl B w e w' hB r
def ag9(L:List Nat)(hk:iK L)(hl:L.length<=100000):ig 243 [iw L] (iP (iA (val L))):=
 FP hk call243 (λA c w h _=>Wz A c L w h aD) λA c B w e w' h hB ⟨h1,h2⟩=>by subst h2;exact⟨_,h1,Below.refl _ _,.v _⟩
def FE(L M:List Nat)(hk:iK L)(hm:iK M)(hl:L.length<=100000)(nt:M.length<=100000):ig 158 [iw L,iw M] (iP (kD (val L) (val M))):=
 BN hk hm call158 (λA c B d w h k _=>FD A B c d L M w h k aD aD) rv
def ahi(m n:Nat)(hl:(ij m).length<=256)(hn:n<=65536)(hf:(ij (m*2^n)).length<=256):ig 157 [iw (ij m),iP (n:Int)] (.iB [iw (ij (m*2^n)),iP 0]):=
 Jw (kS m) call157 (λA c w h _=>NP A c (ij m) n w h hl hn (by rw[jR];exact hf)) λA c B w e w' h hB r=>by rw[jR]at r;exact Dl B w e w' hB r
def WH(m n:Nat)(hl:(ij m).length<=256)(hn:n<=65536):ig 234 [iw (ij m),iP (n:Int)] (.iB [iw (ij (m/2^n)),iP 0]):=
 Jw (kS m) call234 (λA c w h _=>WG A c (ij m) n w h hl hn) λA c B w e w' h hB r=>by rw[jR]at r;exact Dl B w e w' hB r
def NM(m n:Nat)(h1:(ij m).length<=256)(h2:(ij n).length<=256)(hf:(ij (m+n)).length<=256):ig 276 [iw (ij m),iw (ij n)] (.iB [iw (ij (m+n)),iP 0]):=by
 refine BN (kS m) (kS n) call276 (λA c B d w h k _=>Wy A B c d (ij m) (ij n) w h k h1 h2 (by rw[jR,jR];exact hf)) ?_;rw[jR,jR];exact Dl
def NR(m n:Nat)(h1:(ij m).length<=256)(h2:(ij n).length<=256)(hf:n<=m):ig 277 [iw (ij m),iw (ij n)] (.iB [iw (ij (m-n)),iP 0]):=by
 refine BN (kS m) (kS n) call277 (λA c B d w h k _=>NQ A B c d (ij m) (ij n) w h k h1 h2 (by rw[jR,jR];exact hf)) ?_;rw[jR,jR];exact Dl
def vN(m:Nat)(hl:(ij m).length<=100000):ig 243 [iw (ij m)] (iP (iA m)):=by
 have:=ag9 (ij m) (kS m) hl;rwa[jR]at this
def NO(m n:Nat)(hl:(ij m).length<=100000)(nt:(ij n).length<=100000):ig 158 [iw (ij m),iw (ij n)] (iP (kD m n)):=by
 have:=FE (ij m) (ij n) (kS m) (kS n) hl nt;rwa[jR,jR]at this
def yA(a:Dy)(ha:a.iu):ig 132 [im a] (im (jf a)):=xZ call132 (λA c w h _=>Sc a A c w h ha) rd
def uY(a:Dy)(ha:a.iu):ig 154 [im a] (iP a.jd):=xZ call154 (λA c w h _=>Ll a A c w h ha) rv
def Eb(s:Bool)(m:Nat)(e:Int)(hl:(ij m).length<=256)(kZ:-32768<=e)(kF:e<=32768)(hd:nu (canon s m e)):ig 325 [bP s,iw (ij m),iP e] (.iB [im (canon s m e),iP 0]):=by
 refine⟨call325,λw B vs hK hB hr=>?_⟩;obtain⟨v1,vs,rfl,h1,hr⟩:=hr.my;obtain⟨v2,vs,rfl,h2,hr⟩:=hr.my;obtain⟨v3,vs,rfl,h3,hr⟩:=hr.my;obtain rfl:=hr.pH;obtain rfl:=iR.kN h1;obtain rfl:=iR.kN h3;obtain⟨A,c,rfl,s1⟩:=uI (kS m) h2;have:=agM s A c (ij m) e w s1 hl kZ kF hK (by rw[jR];exact hd);rw[jR]at this;exact this.mono λe w' h=>FX B w e w' hB h
def xd:E.le (.sl false 1 1 λi j=>[E.v (.int .u32 1)].getD (i*1+j) (.v (.bool false))) (iw (ij 1)):=by
 have e1:ij 1=[1]:=by rw[yZ aF,show 1/4294967296=0 by decide,mW]
 rw[e1];refine .sl λi j hi hj=>?_
 obtain rfl:i=0:= aD ;obtain rfl:j=0:= aD ;exact⟨.refl _,rfl⟩
def jc(d:Dy):List E:=[bP d.neg,iw (ij d.m),iP d.e]
def nZ(l:List Dy):E:=.sl true l.length 3 λi j=>(jc (l.getD i iQ)).getD j .any
def acK(a:Dy):E.le (.sl true 1 3 λi j=>[bP a.neg,iw (ij a.m),iP a.e].getD (i*3+j) (.v (.bool false))) (nZ [a]):=.sl λi j hi hj=>by
 obtain rfl:i=0:= aD ;rcases j with _|_|_|j
 .exact ⟨.refl _,rfl⟩
 .exact ⟨.refl _,rfl⟩
 .exact ⟨.refl _,rfl⟩
 .omega
def wA(a b:Dy):E.le (.sl true 2 3 λi j=>[bP a.neg,iw (ij a.m),iP a.e,bP b.neg,iw (ij b.m),iP b.e].getD (i*3+j) (.v (.bool false))) (nZ [a,b]):=.sl λi j hi hj=>by
 obtain rfl|rfl:i=0\/i=1:= aD 
 all_goals
  rcases j with _|_|_|j
  .exact ⟨.refl _,rfl⟩
  .exact ⟨.refl _,rfl⟩
  .exact ⟨.refl _,rfl⟩
  .omega
def ou{n:Nat}(h:n≠0):((n:Int)==0)=false:= aR 
def sk{n:Nat}(h:n=0):((n:Int)==0)=true:=by subst h;rfl
def Ar{n:Nat}(h:n=0):((n:Int) != 0)=false:=by subst h;rfl
def C9{n:Nat}(h:n≠0):((n:Int) != 0)=true:= aR 
def qg{m:Nat}:(ij m).length=0↔m=0:=by rw[anp,VU]
def qh{m:Nat}(h:m≠0):(ij m).length≠0:=λq=>h (qg.1 q)
def Fp.Dy.iu.ij{d:Dy}(h:d.iu):(ij d.m).length<=256:=by have:=h.len;omega
end Go.Proofs.YtbhhompalmdaiaaGreatDoor
namespace Go.Proofs.YtbhhompalmdaiaaGreatDoor.Fp
structure Iv where
 lo:Dy
 hi:Dy
 all:Bool
def il:Iv:=⟨iQ,iQ,true⟩
def Iv.iu(x:Iv):Prop:=(x.all=true/\x.lo=iQ/\x.hi=iQ)\/(x.all=false/\x.lo.iu/\x.hi.iu/\jA x.lo x.hi<=0)
def mA:il.iu:=.inl ⟨rfl,rfl,rfl⟩
def mU(lo:Dy)(e:Int)(hi:Dy)(f:Int):Iv:=if e≠0\/f≠0 then il else⟨lo,hi,false⟩
def lM(a b:Dy):Dy:=canon (a.neg != b.neg) (a.m*b.m) (a.e+b.e)
def nL(x:Iv):Iv:=if x.all then il else⟨jf x.hi,jf x.lo,false⟩
def jL(x y:Iv)(p:Nat):Iv:=
 if x.all||y.all then il else mU (jG (iJ x.lo y.lo) p false) (jZ (iJ x.lo y.lo) p false) (jG (iJ x.hi y.hi) p true) (jZ (iJ x.hi y.hi) p true)
def lk(x y:Iv)(p:Nat):Iv:=jL x (nL y) p
def abJ{x y:Int}:uV x y<=0↔x<=y:=by
 unfold uV;split
 .constructor<;>intro<;>omega
 .split<;>constructor<;>intro<;>omega
def pD{a b:Dy}{k:Int}(ha:oH a k)(hb:oH b k):jA a b<=0↔a.num k<=b.num k:=by rw[A8 ha hb,abJ]
def le_trans{a b c:Dy}(h1:jA a b<=0)(h2:jA b c<=0):jA a c<=0:=by
 obtain⟨k,ka,kb,kc⟩:∃ k:Int,k<=a.e/\k<=b.e/\k<=c.e:=⟨min a.e (min b.e c.e),aD,aD,aD⟩
 rw[pD (.inr ka) (.inr kb)]at h1;rw[pD (.inr kb) (.inr kc)]at h2;rw[pD (.inr ka) (.inr kc)];omega
def C2(a:Dy):jA a a<=0:=by rw[pD (k:=a.e) (.inr (cv _)) (.inr (cv _))];exact cv _
def agn(a b:Dy):jA a b<=0\/jA b a<=0:=by
 obtain⟨k,ka,kb⟩:∃ k:Int,k<=a.e/\k<=b.e:=⟨min a.e b.e,aD,aD⟩
 rw[pD (.inr ka) (.inr kb),pD (.inr kb) (.inr ka)];omega
def ahw{a b:Dy}(h:jA a b<=0):jA (jf b) (jf a)<=0:=by
 obtain⟨k,ka,kb⟩:∃ k:Int,k<=a.e/\k<=b.e:=⟨min a.e b.e,aD,aD⟩
 rw[pD (.inr ka) (.inr kb)]at h;rw[pD (k:=k) (GA (.inr kb)) (GA (.inr ka)),Jm,Jm];omega
def ali{a b c d:Dy}(h1:jA a b<=0)(h2:jA c d<=0):jA (iJ a c) (iJ b d)<=0:=by
 obtain⟨k,ka,kb,kc,kd⟩:∃ k:Int,k<=a.e/\k<=b.e/\k<=c.e/\k<=d.e:=⟨min (min a.e b.e) (min c.e d.e),aD,aD,aD,aD⟩
 rw[pD (.inr ka) (.inr kb)]at h1;rw[pD (.inr kc) (.inr kd)]at h2;rw[pD (k:=k) (GB (.inr ka) (.inr kc)) (GB (.inr kb) (.inr kd)),J4 (.inr ka) (.inr kc),J4 (.inr kb) (.inr kd)];omega
def G4(m:Nat)(e:Int)(p:Nat):
 kH m e false p false*2^jg m e p<=m/\m<=kH m e false p true*2^jg m e p:=by
 have h:=cB m (2^jg m e p);have hr:=bC m (bA (n:=jg m e p) (aF:0<2));unfold kH;simp only[bZ,false_and,bF,bK,false_or,true_and];rw[bE];generalize m/2^jg m e p=q at *
 generalize 2^jg m e p=P at *
 refine⟨aD,?_⟩;rw[b8,bE q];split
 .omega
 .omega
def DZ{s:Bool}{m n:Nat}{e f K:Int}(h1:K<=e)(h2:K<=f)(h:m*2^(e-K).toNat<=n*2^(f-K).toNat):
 (s=false->jA (canon s m e) (canon s n f)<=0)/\(s=true->jA (canon s n f) (canon s m e)<=0):=by
 constructor
 .rintro rfl;rw[pD (zE h1) (zE h2),W0 h1,W0 h2]
  exact_mod_cast h
 .rintro rfl;rw[pD (zE h2) (zE h1),BL h1,BL h2];simp only[bN];omega
def RM(neg:Bool)(m:Nat)(e:Int)(p:Nat)(up:Bool)(he:jV neg m e false p up=0)(_hp:1<=p):
 (up=true->jA (canon neg m e) (kf neg m e false p up)<=0)/\(up=false->jA (kf neg m e false p up) (canon neg m e)<=0):=by
 rw[D6]at he;obtain⟨c1,c2⟩:=G4 m e p;have e1:(e-e).toNat=0:= aD ;have e2:(e+(jg m e p:Int)-e).toNat=jg m e p:= aD ;have hk:e<=e+(jg m e p:Int):= aD ;have A:=λs:Bool=>DZ (s:=s) (m:=kH m e false p false) (n:=m) (e:=e+jg m e p) (f:=e) (K:=e) hk (cv _) (by rw[e1,e2];simpa using c1)
 have B:=λs:Bool=>DZ (s:=s) (m:=m) (n:=kH m e false p true) (e:=e) (f:=e+jg m e p) (K:=e) (cv _) hk (by rw[e1,e2];simpa using c2)
 unfold kf;by_cases ho:lZ m e false p (neg != up)=true
 .have hn:¬(neg != up)=true:=λh=>he ⟨ho,h⟩
  rw[bn ho,bl hn];have UK:neg=up:=by cases neg<;>cases up<;>simp at hn ⊢
  have kx:(neg != up)=false:=by rw[UK];simp
  rw[kx]at ho;unfold lZ at ho;simp only[bY,cH]at ho;obtain⟨o1,o2⟩:=ho;have hq:=rk o1;have oP:=nj o1;obtain⟨K,k1,k2⟩:∃ K:Int,K<=e/\K<=16384-p:=⟨min e (16384-p),aD,aD⟩
  have C:(2^p-1)*2^((16384:Int)-p-K).toNat<=m*2^(e-K).toNat:=by
   have h1:2^(iA (kH m e false p false)-1)*2^jg m e p<=m:=bJ (bR _ hq) c1;have h2:=bR (2^(e-K).toNat) h1;rw[<-bw,<-bw]at h2;refine bJ (bR _ (dS _ _)) (bJ ?_ h2);rw[<-bw];exact bI aF aD 
  have D:=DZ (s:=neg) k2 k1 C;subst UK;cases neg
  .exact ⟨λh=>absurd h aF,λ_=>D.1 rfl⟩
  .exact ⟨λ_=>D.2 rfl,λh=>absurd h aF⟩
 .rw [bl ho];cases neg<;>cases up
  .exact ⟨λh=>absurd h aF,λ_=>(A false).1 rfl⟩
  .exact ⟨λ_=>(B false).1 rfl,λh=>absurd h aF⟩
  .exact ⟨λh=>absurd h aF,λ_=>(B true).2 rfl⟩
  .exact ⟨λ_=>(A true).2 rfl,λh=>absurd h aF⟩
def Yi{d:Dy}(hd:d.lh)(p:Nat)(hp:1<=p):
 (jZ d p true=0->jA d (jG d p true)<=0)/\(jZ d p false=0->jA (jG d p false) d<=0):=by
 have h:=hd.Co;constructor
 .intro he;have:=(RM d.neg d.m d.e p true he hp).1 rfl;rwa[h]at this
 .intro he;have:=(RM d.neg d.m d.e p false he hp).2 rfl;rwa[h]at this
def rn{x y:Iv}(hx:x.iu)(hy:y.iu){p:Nat}(hp:1<=p)(iq:p<=4096):(jL x y p).iu:=by
 unfold jL;rcases hx with⟨h,_⟩|⟨h1,h2,h3,h4⟩
 .rw [h];exact mA
 .rcases hy with⟨h,_⟩|⟨k1,k2,k3,k4⟩
  .rw [h,h1];exact mA
  .rw [h1,k1];simp only[amQ,bZ,bF];unfold mU;by_cases he:jZ (iJ x.lo y.lo) p false≠0\/jZ (iJ x.hi y.hi) p true≠0
   .rw [bn he];exact mA
   .rw [bl he];have e1:jZ (iJ x.lo y.lo) p false=0:= aD ;have e2:jZ (iJ x.hi y.hi) p true=0:= aD ;refine .inr ⟨rfl,mD _ _ _ _ _ _ hp iq,mD _ _ _ _ _ _ hp iq,?_⟩;exact le_trans ((Yi (wq h2.canon k2.canon) p hp).2 e1) (le_trans (ali h4 k4) ((Yi (wq h3.canon k3.canon) p hp).1 e2))
def sE{x:Iv}(hx:x.iu):(nL x).iu:=by
 unfold nL;rcases hx with⟨h,_⟩|⟨h1,h2,h3,h4⟩
 .rw [bn h];exact mA
 .rw [h1];exact .inr ⟨rfl,uE h3,uE h2,ahw h4⟩
def ji(a b:Dy):Dy:=if jA b a<0 then b else a
def je(a b:Dy):Dy:=if 0<jA b a then b else a
def Fu(a b:Dy):jA (ji a b) a<=0:=by
 unfold ji;split
 .omega
 .exact C2 a
def Wo(a b:Dy):jA (ji a b) b<=0:=by
 unfold ji;split
 .exact C2 b
 .rcases agn a b with h|h
  .exact h
  .have h0:jA b a=0:= aD ;obtain⟨k,ka,kb⟩:∃ k:Int,k<=a.e/\k<=b.e:=⟨min a.e b.e,aD,aD⟩
   rw[A8 (k:=k) (.inr kb) (.inr ka)]at h0;rw[pD (.inr ka) (.inr kb)];unfold uV at h0;split at h0
   .omega
   .split at h0<;>omega
def zL(a b:Dy):jA a b = -jA b a:=by
 obtain⟨k,ka,kb⟩:∃ k:Int,k<=a.e/\k<=b.e:=⟨min a.e b.e,aD,aD⟩
 rw[A8 (k:=k) (.inr ka) (.inr kb),A8 (k:=k) (.inr kb) (.inr ka)];unfold uV;split<;>split<;>(try split)<;>omega
def C6(a b:Dy):jA a (je a b)<=0:=by
 unfold je;split
 .rw [zL];omega
 .exact C2 a
def agT(a b:Dy):jA b (je a b)<=0:=by
 unfold je;split
 .exact C2 b
 .omega
def qw{a b:Dy}(ha:a.iu)(hb:b.iu):(ji a b).iu:=by unfold ji;split;exact hb;exact ha
def pF{a b:Dy}(ha:a.iu)(hb:b.iu):(je a b).iu:=by unfold je;split;exact hb;exact ha
def me(D : Dy->Dy->Bool->Dy)(E : Dy->Dy->Bool->Int)(x y : Iv) : Iv:=
 if(E x.lo y.lo false=0/\E x.lo y.lo true=0)/\(E x.lo y.hi false=0/\E x.lo y.hi true=0)/\(E x.hi y.lo false=0/\E x.hi y.lo true=0)/\(E x.hi y.hi false=0/\E x.hi y.hi true=0)then
  ⟨ji (ji (ji (D x.lo y.lo false) (D x.lo y.hi false)) (D x.hi y.lo false)) (D x.hi y.hi false),
   je (je (je (D x.lo y.lo true) (D x.lo y.hi true)) (D x.hi y.lo true)) (D x.hi y.hi true),false⟩
 else il
def Tf{D:Dy->Dy->Bool->Dy}{E:Dy->Dy->Bool->Int}{x y:Iv}(hv:∀ a b up,(D a b up).iu)
 (hle:E x.lo y.lo false=0->E x.lo y.lo true=0->jA (D x.lo y.lo false) (D x.lo y.lo true)<=0):(me D E x y).iu:=by
 unfold me;split
 .rename_i h;refine .inr ⟨rfl,qw (qw (qw (hv _ _ _) (hv _ _ _)) (hv _ _ _)) (hv _ _ _),pF (pF (pF (hv _ _ _) (hv _ _ _)) (hv _ _ _)) (hv _ _ _),?_⟩;refine le_trans (Fu _ _) (le_trans (Fu _ _) (le_trans (Fu _ _) (le_trans (hle h.1.1 h.1.2) ?_)));exact le_trans (C6 _ _) (le_trans (C6 _ _) (C6 _ _))
 .exact mA
def iI(x y:Iv)(p:Nat):Iv:=
 if x.all||y.all then il else me (λa b up=>jG (lM a b) p up) (λa b up=>jZ (lM a b) p up) x y
def lX(x y:Iv){p:Nat}(hp:1<=p)(iq:p<=4096):(iI x y p).iu:=by
 unfold iI;split
 .exact mA
 .exact Tf (λ_ _ _=>mD _ _ _ _ _ _ hp iq) (λh1 h2=>RK _ _ _ _ _ h1 h2)
def kv(a b:Dy)(p:Nat)(g:Nat):Nat:=p+g+iA b.m-iA a.m
def ks(a b:Dy)(p:Nat)(up:Bool):Dy:=
 if a.m=0 then iQ else kf (a.neg != b.neg) (a.m*2^kv a b p 2/b.m) (a.e-b.e-kv a b p 2) (decide (a.m*2^kv a b p 2%b.m≠0)) p up
def mS(a b:Dy)(p:Nat)(up:Bool):Int:=
 if a.m=0 then 0 else jV (a.neg != b.neg) (a.m*2^kv a b p 2/b.m) (a.e-b.e-kv a b p 2) (decide (a.m*2^kv a b p 2%b.m≠0)) p up
def Le{a b:Dy}(a0:a.m≠0)(b0:b.m≠0)(p g:Nat)(hg:2<=g):p<iA (a.m*2^kv a b p g/b.m):=by
 have h1:=rk a0;have h2:=pE b.m;have ha:=nj a0;have h3:2^p<=a.m*2^kv a b p g/b.m:=by
  rw[dB aD];refine bJ (cM _ (dG h2)) (bJ ?_ (bR _ h1));rw[<-bw,<-bw];exact bI aF (by unfold kv;omega)
 exact wX.2 h3
def aci{a b:Dy}(a0:a.m≠0)(b0:b.m≠0)(p:Nat)(up:Bool):
 kf (a.neg != b.neg) (a.m*2^kv a b p 3/b.m) (a.e-kv a b p 3-b.e) (decide (a.m*2^kv a b p 3%b.m≠0)) p up=ks a b p up /\
 jV (a.neg != b.neg) (a.m*2^kv a b p 3/b.m) (a.e-kv a b p 3-b.e) (decide (a.m*2^kv a b p 3%b.m≠0)) p up=mS a b p up:=by
 obtain⟨d,hd⟩:∃ d,kv a b p 3=kv a b p 2+d:=⟨kv a b p 3-kv a b p 2,by unfold kv;omega⟩
 have hb:=Le a0 b0 p 2 aF;unfold ks mS;rw[bl a0,bl a0,hd];generalize kv a b p 2=k at *
 have hB:0<b.m:= aD ;have hP:=bA (n:=d) (aF:0<2);have e1:a.m*2^(k+d)/b.m/2^d=a.m*2^k/b.m:=by
  rw[cU,bw,<-bB,Nat.mul_div_mul_right _ _ hP]
 have e2:(decide (a.m*2^(k+d)%b.m≠0)||decide (a.m*2^(k+d)/b.m%2^d≠0))=decide (a.m*2^k%b.m≠0):=by
  have h1:a.m*2^(k+d)%(b.m*2^d)=a.m*2^k%b.m*2^d:=by rw[bw,<-bB,Nat.mul_mod_mul_right]
  have h2:a.m*2^(k+d)%(b.m*2^d)=a.m*2^(k+d)%b.m+b.m*(a.m*2^(k+d)/b.m%2^d):=gy;rw[h1]at h2;rw[fP];simp only[eX,cH];constructor
  .intro h h0;rw[h0,cN]at h2;rcases h with h|h
   .omega
   .have:=eP hB (eF h);omega
  .intro h;apply b9;intro hn;have n1:a.m*2^(k+d)%b.m=0:=by
    apply b9;intro h';exact hn (.inl h')
   have n2:a.m*2^(k+d)/b.m%2^d=0:=by
    apply b9;intro h';exact hn (.inr h')
   rw[n1,n2,cQ]at h2;have:=eP (eF h) hP;omega
 have h:=G3 (N:=a.m*2^(k+d)/b.m) (E:=a.e-((k+d:Nat):Int)-b.e) (more:=decide (a.m*2^(k+d)%b.m≠0)) (d:=d) (p:=p) (a.neg != b.neg) up (by rw[e1];exact hb);rw[e1,e2,(aD:a.e-((k+d:Nat):Int)-b.e+(d:Int)=a.e-b.e-(k:Int))]at h;exact⟨h.1.symm,h.2.symm⟩
def mh(x:Iv):Int:=if x.all then 0 else if 0<x.lo.jh then 1 else if x.hi.jh<0 then -1 else 0
def jj(x y:Iv)(p:Nat):Iv:=
 if x.all||y.all||decide (mh y=0)then il else me (λa b up=>ks a b p up) (λa b up=>mS a b p up) x y
def pd(x y:Iv){p:Nat}(hp:1<=p)(iq:p<=4096):(jj x y p).iu:=by
 unfold jj;split
 .exact mA
 .refine Tf (λa b up=>?_) (λh1 h2=>?_)
  .unfold ks;split
   .exact qn
   .exact mD _ _ _ _ _ _ hp iq
  .unfold ks mS at *
   split
   .exact C2 _
   .rename_i h;rw[bl h]at h1 h2;exact RK _ _ _ _ _ h1 h2
def lR(d:Dy):Dy:=⟨false,d.m,d.e⟩
def uQ{d:Dy}(h:d.iu):(lR d).iu:=by
 refine⟨?_,h.range⟩;rcases h.canon with⟨h1,_,h3⟩|h1
 .exact .inl ⟨h1,rfl,h3⟩
 .exact .inr h1
def ZX(d:Dy)(k:Int):(lR d).num k=(d.j8 k:Int):=by unfold Dy.num lR Dy.j8;simp
def kO(x:Iv):Dy:=je (lR x.lo) (lR x.hi)
def ot(x:Iv):Dy:=if mh x=0 then iQ else ji (lR x.lo) (lR x.hi)
def jD(x:Iv):Iv:=if x.all then il else⟨ot x,kO x,false⟩
def iV(d:Dy):Iv:=⟨d,d,false⟩
def qO{d:Dy}(h:d.iu):(iV d).iu:=.inr ⟨rfl,h,h,C2 d⟩
def vI{x:Iv}(h1:x.lo.iu)(h2:x.hi.iu):(kO x).iu:=pF (uQ h1) (uQ h2)
def yr{x:Iv}(h:x.iu):(jD x).iu:=by
 unfold jD;rcases h with⟨h,_⟩|⟨h,h1,h2,_⟩
 .rw [h];exact mA
 .rw [h];have v1:=uQ h1;have v2:=uQ h2;refine .inr ⟨rfl,?_,vI h1 h2,?_⟩
  .show (ot x).iu;unfold ot;split
   .exact qn
   .exact qw v1 v2
  .show jA (ot x) (kO x)<=0;unfold ot;split
   .refine le_trans (b:=lR x.lo) ?_ (C6 _ _);rw[pD (a:=iQ) (b:=lR x.lo) (k:=x.lo.e) (.inl rfl) (.inr (cv _)),vR rfl,ZX];omega
   .exact le_trans (Fu _ _) (C6 _ _)
structure ke(m:List (List Iv))(n k:Nat):Prop where
 jm:m.length=n
 row:∀ r,r ∈ m->r.length=k
 ok:∀ r,r ∈ m->∀ x,x ∈ r->x.iu
 n1:1<=n
 n8:n<=8
 k1:1<=k
 k8:k<=8
def xJ(n:Nat):List (List Iv):=(List.range n).map λi=>(List.range n).map λj=>iV (if i=j then⟨false,1,0⟩else iQ)
def pe(m:List (List Iv))(i j:Nat):Iv:=(m.getD i []).getD j il
def Hc(a b:List Iv)(p:Nat):Iv:=
 match a,b with
 |x::a,y::b=>(a.zip b).foldl (λs q=>jL s (iI q.1 q.2 p) p) (iI x y p)
 |_,_=>il
def GY(m:List (List Iv))(j:Nat):List Iv:=m.map λr=>r.getD j il
def re(a b:List (List Iv))(p:Nat):List (List Iv):=a.map λr=>(List.range (b.headD []).length).map λj=>Hc r (GY b j) p
def yv(a b:List (List Iv))(p:Nat):List (List Iv):=List.zipWith (λr s=>List.zipWith (λx y=>jL x y p) r s) a b
def s8(a:List (List Iv))(x:Iv)(p:Nat):List (List Iv):=a.map λr=>r.map λy=>iI x y p
def acs{a b:List Iv}{p:Nat}(hp:1<=p)(iq:p<=4096):(Hc a b p).iu:=by
 unfold Hc
 match a,b with
 | [],[]=>exact mA
 | [],_::_=>exact mA
 |_::_,[]=>exact mA
 |x::a,y::b=>
  simp only;have:∀ (l:List (Iv×Iv)) (s:Iv),s.iu->(l.foldl (λs q=>jL s (iI q.1 q.2 p) p) s).iu:=by
   intro l
   induction l with
   |nil=>intro s h;exact h
   |cons q l ih=>intro s h;exact ih _ (rn h (lX _ _ hp iq) hp iq)
  exact this _ _ (lX _ _ hp iq)
def jY(n:Int):Dy:=lY n 0
def iN(n:Int):Iv:=iV (jY n)
def Dm(r:List Iv)(p:Nat):Option Dy:=
 r.foldl (λs x=>s.bind λs=>if x.all then none else if jZ (iJ s (kO x)) p true≠0 then none else some (jG (iJ s (kO x)) p true)) (some iQ)
def s5(m:List (List Iv))(p:Nat):Option Dy:=
 m.foldl (λs r=>s.bind λs=>(Dm r p).map λn=>if 0<jA n s then n else s) (some iQ)
def nf(u:Iv)(p:Nat):Nat->Iv
 | 0=>iN 1
 |j+1=>iI (nf u p j) (jj u (iN (j+1:Nat)) p) p
def sG(m:List (List Iv))(h:Iv)(k p:Nat):Option Iv:=
 (s5 m p).bind λn=>
  let u:=iI (jD h) (iV n) p
  if u.all||decide (0<=jA u.hi (jY (k+2:Nat)))then none
  else
   let e:=jj (nf u p (k+1)) (lk (iN 1) (jj u (iN (k+2:Nat)) p) p) p
   if e.all then none else some ⟨jf e.hi,e.hi,false⟩
def rI(m:List (List Iv))(h:Iv)(p:Nat):Nat->List (List Iv)
 | 0=>xJ m.length
 |j+1=>s8 (re (rI m h p j) m p) (jj h (iN (j+1:Nat)) p) p
def j9(m:List (List Iv))(h:Iv)(p:Nat):Nat->List (List Iv)
 | 0=>xJ m.length
 |j+1=>yv (j9 m h p j) (rI m h p (j+1)) p
def tp(m:List (List Iv))(h:Iv)(k p:Nat):Option (List (List Iv)):=
 (sG m h k p).bind λe=>
  let out:=(j9 m h p k).map λr=>r.map λx=>jL x e p
  if out.any λr=>r.any λx=>x.all then none else some out
end Go.Proofs.YtbhhompalmdaiaaGreatDoor.Fp
namespace Go.Proofs.YtbhhompalmdaiaaGreatDoor
open Go.RowKit Fp Pu
def iZ(x:Iv):List E:=[bP x.lo.neg,iw (ij x.lo.m),iP x.lo.e,bP x.hi.neg,iw (ij x.hi.m),iP x.hi.e,bP x.all]
def ix(x:Iv):E:=.agg (iZ x)
def iz(l:List Iv):E:=.sl true l.length 7 λi j=>(iZ (l.getD i il)).getD j .any
def iU(m:List (List Iv)):E:=.sl true m.length 1 λi _=>iz (m.getD i [])
def pN(x y:Iv):Bool:=y.all||(!x.all&&(decide (jA y.lo x.lo<=0)&&decide (jA x.hi y.hi<=0)))
def y7:E.le (.v (.slice none 0 0)) (iw (ij 0)):=by
 have:iw (ij 0) = .sl false 0 1 λi _=>.v (.int .u32 (((ij 0).getD i 0:Nat):Int)):=by unfold iw;rw[mW];rfl
 rw[this];exact .nil _ _ _
def yj:E.le (.agg [bP false,.v (.slice none 0 0),iP 0,bP false,.v (.slice none 0 0),iP 0,bP true]) (ix il):=
 .agg (.cons (.refl _) (.cons y7 (.cons (.refl _) (.cons (.refl _) (.cons y7 (.cons (.refl _) (.cons (.refl _) .nil)))))))
structure RD where
 neg:Bool
 L:List Nat
 e:Int
structure RI where
 lo:RD
 hi:RD
 all:Bool
def rdL(d:RD):List E:=[bP d.neg,iw d.L,iP d.e]
def xh(d:RD):E:=.agg (rdL d)
def Yg(x:RI):List E:=[bP x.lo.neg,iw x.lo.L,iP x.lo.e,bP x.hi.neg,iw x.hi.L,iP x.hi.e,bP x.all]
def BV(x:RI):E:=.agg (Yg x)
def Dr:RD:=⟨false,[],0⟩
def sH:RI:=⟨Dr,Dr,true⟩
def F2(l:List RI):E:=.sl true l.length 7 λi j=>(Yg (l.getD i sH)).getD j .any
def AG(m:List (List RI)):E:=.sl true m.length 1 λi _=>F2 (m.getD i [])
structure RD.qR(d:RD):Prop where
 ok:iK d.L
 lo:-9223372036854775808<=d.e
 hi:d.e<=9223372036854775807
structure RI.qR(x:RI):Prop where
 lo:x.lo.qR
 hi:x.hi.qR
def Yy:Dr.qR:=⟨iK.nil,aF,aF⟩
def Yx:sH.qR:=⟨Yy,Yy⟩
def RD.dy(d:RD):Dy:=⟨d.neg,val d.L,d.e⟩
def RD.Ok(d:RD):Prop:=oI d.neg d.L d.e
def RD.Zero(d:RD):Prop:=d.neg=false/\d.L=[]/\d.e=0
def RI.iv(x:RI):Iv:=⟨x.lo.dy,x.hi.dy,x.all⟩
def RI.Ok(x:RI):Prop:=(x.all=true/\x.lo.Zero/\x.hi.Zero)\/(x.all=false/\x.lo.Ok/\x.hi.Ok/\jA x.lo.dy x.hi.dy<=0)
def Fp.Dy.raw(d:Dy):RD:=⟨d.neg,ij d.m,d.e⟩
def Fp.Iv.raw(x:Iv):RI:=⟨x.lo.raw,x.hi.raw,x.all⟩
def RD.Ok.valid{d:RD}(h:d.Ok):d.dy.iu:=h.2.2
def RD.Ok.eq{d:RD}(h:d.Ok)(g:d.qR):d.dy.raw=d:=by
 obtain⟨n,L,e⟩:=d;show RD.mk n (ij (val L)) e=_;rw[<-oI.Eh h g.ok]
def RD.Zero.eq{d:RD}(h:d.Zero):d.dy=iQ/\d.dy.raw=d:=by
 obtain⟨n,L,e⟩:=d;obtain⟨rfl,rfl,rfl⟩:=h;refine⟨rfl,?_⟩;show RD.mk false (ij 0) 0=_;rw[mW]
def RI.Ok.valid{x:RI}(h:x.Ok):x.iv.iu:=by
 rcases h with⟨h1,h2,h3⟩|⟨h1,h2,h3,h4⟩
 .exact .inl ⟨h1,h2.eq.1,h3.eq.1⟩
 .exact .inr ⟨h1,h2.valid,h3.valid,h4⟩
def RI.Ok.eq{x:RI}(h:x.Ok)(g:x.qR):x.iv.raw=x:=by
 obtain⟨lo,hi,a⟩:=x;rcases h with⟨h1,h2,h3⟩|⟨h1,h2,h3,h4⟩
 .show RI.mk lo.dy.raw hi.dy.raw a=_;rw[h2.eq.2,h3.eq.2]
 .show RI.mk lo.dy.raw hi.dy.raw a=_;rw[h2.eq g.lo,h3.eq g.hi]
def Fp.Dy.OO(d:Dy):d.raw.dy=d:=by show Dy.mk d.neg (val (ij d.m)) d.e=d;rw[jR]
def acD(d:Dy):xh d.raw=im d:=rfl
def VG(x:Iv):BV x.raw=ix x:=rfl
def Fp.Dy.iu.yD{d:Dy}(h:d.iu):d.raw.qR:=⟨kS _,by have:=h.exp;show -9223372036854775808<=d.e;omega,by have:=h.exp;show d.e<=9223372036854775807;omega⟩
def Fp.Dy.iu.FL{d:Dy}(h:d.iu):d.raw.Ok:=h.uX
def Fp.Iv.iu.FL{x:Iv}(h:x.iu):x.raw.Ok:=by
 rcases h with⟨h1,h2,h3⟩|⟨h1,h2,h3,h4⟩
 .refine .inl ⟨h1,?_,?_⟩
  .show x.lo.raw.Zero;rw[h2];exact⟨rfl,mW,rfl⟩
  .show x.hi.raw.Zero;rw[h3];exact⟨rfl,mW,rfl⟩
 .refine .inr ⟨h1,h2.FL,h3.FL,?_⟩;show jA x.lo.raw.dy x.hi.raw.dy<=0;rw[Dy.OO,Dy.OO];exact h4
def Fp.Iv.iu.kn{x:Iv}(h:x.iu):x.lo.iu/\x.hi.iu:=by
 rcases h with⟨_,h2,h3⟩|⟨_,h2,h3,_⟩
 .rw [h2,h3];exact⟨qn,qn⟩
 .exact ⟨h2,h3⟩
def Fp.Iv.iu.yD{x:Iv}(h:x.iu):x.raw.qR:=⟨h.kn.1.yD,h.kn.2.yD⟩
def amj:il.raw=sH:=by
 show RI.mk iQ.raw iQ.raw true=RI.mk Dr Dr true;have:iQ.raw=Dr:=by show RD.mk false (ij 0) 0=_;rw[mW];rfl
 rw[this]
def zj(l:List Iv):List RI:=l.map Iv.raw
def uG(m:List (List Iv)):List (List RI):=m.map zj
def Tx(l:List Iv)(i:Nat):(zj l).getD i sH=(l.getD i il).raw:=by
 unfold zj;rw[bu,bu,cY];cases l[i]? with
 |none=>exact amj.symm
 |some x=>rfl
def af4(l:List Iv):F2 (zj l)=iz l:=by
 unfold F2 iz;rw[show(zj l).length=l.length by simp[zj]];congr 1;funext i j;rw[Tx];rfl
def agO(m:List (List Iv)):AG (uG m)=iU m:=by
 unfold AG iU;rw[show(uG m).length=m.length by simp[uG]];congr 1;funext i j;rw[<-af4];congr 1;unfold uG;rw[bu,bu,cY];cases m[i]? <;> rfl
structure DO(m:List (List RI)):Prop where
 n1:1<=m.length
 n8:m.length<=8
 k1:1<=(m.getD 0 []).length
 k8:(m.getD 0 []).length<=8
 row:∀ i,i<m.length->(m.getD i []).length=(m.getD 0 []).length
 ok:∀ i,i<m.length->∀ j,j<(m.getD i []).length->((m.getD i []).getD j sH).Ok
def DK(m:List (List RI)):Prop:=∀ r,r ∈ m->∀ x,x ∈ r->x.qR
def DK.at{m:List (List RI)}(h:DK m)(i j:Nat):((m.getD i []).getD j sH).qR:=by
 by_cases hi:i<m.length
 .rw [bu (l:=m),bD hi];show(m[i].getD j sH).qR;by_cases hj:j<m[i].length
  .rw [bu,bD hj];exact h _ (cO hi) _ (cO hj)
  .rw [bu,cw aD];exact Yx
 .rw [bu (l:=m),cw aD];exact Yx
def Lm(d:RD)(g:d.qR)(b:Bool)(hb:b=true↔d.Ok):ig 40 [xh d] (bP b):=by
 refine⟨call40,λw B vs hK hB hr=>?_⟩;obtain⟨v1,vs,rfl,h1,hr⟩:=hr.my;obtain rfl:=hr.pH;obtain⟨us,rfl,q⟩:=iR.Cj (show iR _ _ w (.agg _) v1 from h1);obtain⟨u1,us,rfl,k1,q⟩:=q.my;obtain⟨u2,us,rfl,k2,q⟩:=q.my;obtain⟨u3,us,rfl,k3,q⟩:=q.my;obtain rfl:=q.pH;obtain rfl:=iR.kN k1;obtain rfl:=iR.kN k3;obtain⟨A,c,rfl,hs⟩:=uI g.ok k2;exact(Bb d.neg A c d.L d.e w b hs g.lo g.hi hb).mono λe w' h=>rv B w e w' hB h
def ajP(d:RD)(g:d.qR)(b:Bool)(hb:b=true↔d.Ok):ig 28 [xh d] (bP b):=by
 refine⟨call28,λw B vs hK hB hr=>?_⟩;obtain⟨v1,vs,rfl,h1,hr⟩:=hr.my;obtain rfl:=hr.pH;obtain⟨us,rfl,q⟩:=iR.Cj (show iR _ _ w (.agg _) v1 from h1);obtain⟨u1,us,rfl,k1,q⟩:=q.my;obtain⟨u2,us,rfl,k2,q⟩:=q.my;obtain⟨u3,us,rfl,k3,q⟩:=q.my;obtain rfl:=q.pH;obtain rfl:=iR.kN k1;obtain rfl:=iR.kN k3;obtain⟨A,c,rfl,hs⟩:=uI g.ok k2;exact(JK d.neg A c d.L d.e w b hs g.lo g.hi hb).mono λe w' h=>rv B w e w' hB h
def ahh{a b:Nat}(h:a≠b):((a:Int) != (b:Int))=true:= aR 
def sD{a b:Nat}(h:a=b):((a:Int) != (b:Int))=false:=by simp[h]
def FG{a b:Nat}(h:a=b):((a:Int)==b)=true:=by simp[h]
def WA{a b:Nat}(h:a≠b):((a:Int)==b)=false:= aR 
open Classical in
noncomputable def uF(x:RI):Bool:=decide x.Ok
def Jp{x:RI}:uF x=true↔x.Ok:=by unfold uF;simp
open Classical in
noncomputable def wY(m:List (List RI)):Bool:=decide (DO m)
def NF{m:List (List RI)}:wY m=true↔DO m:=by unfold wY;simp
def Fq{m:List (List RI)}(h:¬DO m):wY m=false:=by simpa using λq=>h (NF.1 q)
open Go.ChangeShapes Go.WideShapes Go.ChangeAt
abbrev FJ:Nat->Prop:=λ_=>False
section
variable {H:Type} {enc:TypeId×Value->H} {W:World} {fuel:Nat} {cs:List Value} {x:DataW H×List MemPlace}
end
def aeC{P:Program}{c:OpenClaim}(h:P.funcs.any Func.goes=false)(hs:c.start = .entering):false=c.goesBy P:=by
 have h1:∀ g:Nat,(P.funcs[g]?).any Func.goes=false:=by
  intro g;cases hg:P.funcs[g]? with
  |none=>rfl
  |some fn=>
   rw[Option.any_some];rw[Array.any_eq_false]at h;obtain⟨hl,he⟩:=dx.1 hg;have:=h g hl;rw[he]at this;simpa using this
 have h2:∀ f,P.goes f=false:=by
  intro f;unfold Program.goes;rw[h,Bool.and_false,anb,dP];intro g _;rw[h1 g];decide
 unfold OpenClaim.goesBy Program.goesAt Program.goesFrom;rw[hs];cases P.funcNamed c.func with
 |none=>rfl
 |some f=>simp[h2 f]
def adR:Tryz.pinned.checked.prog.funcs.any Func.goes=false:= aG 
def PL{k:IntKind}{z:Int}(h:(Lit.int k z).wf=true):nA k z:=by
 cases k<;>(simp[Lit.wf,IntKind.min,IntKind.max,IntKind.signed,IntKind.bits]at h;simp only[nA];omega)
end Go.Proofs.YtbhhompalmdaiaaGreatDoor
namespace Go.Proofs.YtbhhompalmdaiaaGreatDoor.Pu
open Go.RowKit
inductive R where
 |nil
 |jM
 |a (p:Prop) (r:R)
 |w (p:Prop) (r1:p->R) (r2:¬p->R)
def R.ok:R->Prop
 | .nil=>True
 | .jM=>False
 | .a p r=>p/\r.ok
 | .w p r1 r2=>(∀ h:p,(r1 h).ok)/\(∀ h:¬p,(r2 h).ok)
inductive Tr(P:Program)(K:World->Prop) where
 |nil
 |c {f:FuncId} {args:List E} {kj:E} (h:PC P K f args kj) (t:Tr P K)
 |cf {f:FuncId} {args:List E} {kj:E} (h:AT P K f args kj) (t:Tr P K)
 |cn {f:FuncId} {args:List E} {nl:Bool} {T:TypeId} {n sz:Nat} {el:Nat->Nat->E} (h:uO P K f args nl T n sz el) (t:Tr P K)
 |g {op:BinOp} {ty:TypeId} {x y:E} {v:Value} (h:pq P op ty x y v) (t:Tr P K)
 |m {l:List (Int×FuncId×List FuncId)} {z:Int} {e:E} (h:xT l z=some e) (t:Tr P K)
 |o (d:Nat) {p q:PV} (h:PV.le p q) (t:Tr P K)
 |bo (t:Tr P K)
 |a {p:Prop} (h:p) (t:Tr P K)
 |w (p:Prop) (t1:p->Tr P K) (t2:¬p->Tr P K)
 |s {c:Code} {σ τ:PS} {e:Ex} (h:Sp P K c σ (λe' τ'=>e'=e/\τ'=τ)) (l t:Tr P K)
 |j (c:Nat) (τ:PS) (tj t:Tr P K)
 |v (d:Nat) {p q:PV} (h:PV.le p q) (t:Tr P K)
 |b (d:Nat) {p q:Bx} (h:Bx.le p q) (t:Tr P K)
 |z (id:Nat) (t:Tr P K)
 |y (s id:Nat) (nl:Bool) (T:TypeId) (sz:Nat) (el:Nat->Nat->E) (t:Tr P K)
 |e (t:Tr P K)
 |k (ts bs:List Nat) (t:Tr P K)
 |u (n:Nat) (t:Tr P K)
 |x (h:False)
 |r {p q:E} (h:E.le p q)
 |rb {p q:Bx} (h:Bx.le p q)
section
variable {P:Program} {K:World->Prop}
def DB:List (Nat×PV)->Tr P K->(Tr P K->R)->R
 | [],t,k=>k t
 | (d,q)::l,t,k=>match t with
  | .o d' (p:=p) (q:=q') _ t'=>if Nat.beq d' d then .a (PV.le p q') (DB l t' k)else .a (PV.le q q) (DB l t k)
  |t=>.a (PV.le q q) (DB l t k)
def Cl:List (Nat×Bx)->Tr P K->R->R
 | [],_,r=>r
 | (d,q)::l,t,r=>match t with
  | .b d' (p:=p) (q:=q') _ t'=>if Nat.beq d' d then .a (Bx.le p q') (Cl l t' r)else .a (Bx.le q q) (Cl l t r)
  |t=>.a (Bx.le q q) (Cl l t r)
def Dv(σ:PS)(t:Tr P K)(r:R):R:=DB σ.t t λt=>Cl σ.b t r
def Tr.ex:Tr P K->(Tr P K->R)->R
 | .nil,fin=>fin .nil
 | .e t,fin=>fin t
 | @Tr.c _ _ f args kj _ t,fin=>.a (PC P K f args kj) (t.ex fin)
 | @Tr.cf _ _ f args kj _ t,fin=>.a (AT P K f args kj) (t.ex fin)
 | @Tr.cn _ _ f args nl T n sz el _ t,fin=>.a (uO P K f args nl T n sz el) (t.ex fin)
 | @Tr.g _ _ op₁ ty₁ xe₁ ye₁ ve₁ _ t,fin=>.a (pq P op₁ ty₁ xe₁ ye₁ ve₁) (t.ex fin)
 | @Tr.m _ _ l₁ z₁ e₁ _ t,fin=>.a (xT l₁ z₁=some e₁) (t.ex fin)
 | .o _ (p:=p) (q:=q) _ t,fin=>.a (PV.le p q) (t.ex fin)
 | .bo t,fin=>.a True (t.ex fin)
 | .a (p:=p) _ t,fin=>.a p (t.ex fin)
 | .w p t1 t2,fin=>.w p (λh=>(t1 h).ex fin) (λh=>(t2 h).ex fin)
 | @Tr.s _ _ c₁ σ τ e₁ _ l t,fin=>Dv σ l (.a (Sp P K c₁ σ (λe' τ'=>e'=e₁/\τ'=τ)) (t.ex fin))
 | .j _ τ tj t,fin=>.a (tj.ex λt=>Dv τ t .nil).ok (t.ex fin)
 | .v _ (p:=p) (q:=q) _ t,fin=>.a (PV.le p q) (t.ex fin)
 | .b _ _ t,fin=>t.ex fin
 | .z _ t,fin=>t.ex fin
 | .y _ _ _ _ _ _ t,fin=>t.ex fin
 | .k _ _ t,fin=>t.ex fin
 | .u _ t,fin=>t.ex fin
 | .x _,fin=>.a False .nil
 | .r (p:=p) (q:=q) _,fin=>.a (E.le p q) .nil
 | .rb (p:=p) (q:=q) _,fin=>.a (Bx.le p q) .nil
def alw{l:List (Nat×PV)}{t:Tr P K}{k:Tr P K->R}(hk:∀ t,(k t).ok):(DB l t k).ok:=by
 induction l generalizing t with
 |nil=>exact hk t
 |cons x l ih=>
  obtain⟨d,q⟩:=x;cases t with
  |o d' h t'=>
   simp only[DB];split
   .exact ⟨h,ih⟩
   .exact ⟨PV.le.refl q,ih⟩
  |_=>exact⟨PV.le.refl q,ih⟩
def aav{l:List (Nat×Bx)}{t:Tr P K}{r:R}(hr:r.ok):(Cl l t r).ok:=by
 induction l generalizing t with
 |nil=>exact hr
 |cons x l ih=>
  obtain⟨d,q⟩:=x;cases t with
  |b d' h t'=>
   simp only[Cl];split
   .exact ⟨h,ih⟩
   .exact ⟨Bx.le.refl q,ih⟩
  |_=>exact⟨Bx.le.refl q,ih⟩
def Pq{σ:PS}{t:Tr P K}{r:R}(hr:r.ok):(Dv σ t r).ok:=alw λ_=>aav hr
def Tr.LH{fin:Tr P K->R}(hf:∀ t,(fin t).ok)(t:Tr P K):(t.ex fin).ok:=by
 induction t generalizing fin with
 |nil=>exact hf _
 |e t=>exact hf _
 |c h t ih=>exact⟨h,ih hf⟩
 |cf h t ih=>exact⟨h,ih hf⟩
 |cn h t ih=>exact⟨h,ih hf⟩
 |g h t ih=>exact⟨h,ih hf⟩
 |m h t ih=>exact⟨h,ih hf⟩
 |o d h t ih=>exact⟨h,ih hf⟩
 |bo t ih=>exact⟨trivial,ih hf⟩
 |a h t ih=>exact⟨h,ih hf⟩
 |w p t1 t2 E4 E5=>exact⟨λh=>E4 h hf,λh=>E5 h hf⟩
 |s h l t ihl M9=>exact Pq ⟨h,M9 hf⟩
 |j c τ tj t ihj M9=>exact⟨ihj λ_=>Pq trivial,M9 hf⟩
 |v d h t ih=>exact⟨h,ih hf⟩
 |b d h t ih=>exact ih hf
 |z id t ih=>exact ih hf
 |y s id nl T sz el t ih=>exact ih hf
 |k ts bs t ih=>exact ih hf
 |u n t ih=>exact ih hf
 |x h=>exact h.elim
 |r h=>exact⟨h,trivial⟩
 |rb h=>exact⟨h,trivial⟩
def Px(υ:PS):List (Nat×PV)->R->R
 | [],r=>r
 | (d,q)::l,r=>.a (PV.le (υ.get d) q) (Px υ l r)
def GH(υ:PS):List (Nat×Bx)->R->R
 | [],r=>r
 | (d,q)::l,r=>match υ.bo d with
  |some b=>.a (Bx.le b q) (GH υ l r)
  |none=>.jM
def J3(υ σ:PS)(r:R):R:=if Nat.beq υ.n σ.n&&(σ.b.all (λx=>x.2.nl)||(σ.nl==υ.nl))&&F1 σ then Px υ σ.t (GH υ σ.b r)else .jM
def Tr.tail:Tr P K->Tr P K
 | .c _ t=>t
 | .cf _ t=>t
 | .cn _ t=>t
 | .g _ t=>t
 | .m _ t=>t
 | .bo t=>t
 | .a _ t=>t
 |_=>.nil
def Oa:List Prop->Tr P K->(Tr P K->R)->R
 | [],t,k=>k t
 |p::l,t,k=>.a p (Oa l t.tail k)
def Rn(d:Option Tmp)(t:Tr P K):pY:=match d with
 |some d=>match t with
  | @Tr.c _ _ _ _ kj _ _=>{ cl:=[(d,kj)] }
  | @Tr.cf _ _ _ _ kj _ _=>{ cl:=[(d,kj)] }
  | @Tr.g _ _ _ _ _ _ ve₁ _ _=>{ cl:=[(d,.v ve₁)] }
  | @Tr.m _ _ _ _ e₁ _ _=>{ cl:=[(d,e₁)] }
  | @Tr.cn _ _ _ _ nl T n sz el _ _=>{ nw:=[(d,.row nl T n sz el)] }
  | .bo _=>{ nw:=[(d,.cells 0 [])] }
  |_=>{}
 |none=>{}
def FQ:Tr P K->(Tr P K->R)->R
 | .w p t1 t2,k=>.w p (λh=>FQ (t1 h) k) (λh=>FQ (t2 h) k)
 | .x _,_=>.a False .nil
 |t,k=>k t
def Oo(o:Oper)(u:kW)(t:Tr P K)(k:kW->Tr P K->R):R:=match o.dst,t with
 |some d,.o d' (q:=q) _ t'=>if Nat.beq d' d then .a (PV.le u.r q) (k { u with r:=q,ki:=PV.le u.r q::u.ki } t')else k u t
 |_,t=>k u t
def Oh(T:List TI)(ik:Array Oper)(σ:PS)(o:Oper)(t:Tr P K)(k:kW->Tr P K->R):R:=
 if vD σ o.dst then match zB ik σ o with
  |some false=>k { r:=.e (.v (.tuple #[])),rd:=(looks ik o).map σ.get } t
  |some true=>FQ t λt=>match jQ P K T (Rn o.dst t) σ o with
   |some u=>Oa u.ki t λt=>FQ t λt=>Oo o u t λu t=>k { u with rd:=(looks ik o).map σ.get } t
   |none=>.jM
  |none=>.jM
 else .jM
def Om(T:List TI)(ik:Array Oper)(k:List (Oper×kW)->PS->Tr P K->R):List Oper->List (Oper×kW)->PS->Tr P K->R
 | [],us,σ,t=>k us σ t
 |o::l,us,σ,t=>Oh T ik σ o t λu t'=>Om T ik k l ((o,u)::us) (σ.app o.dst u) t'
def rG(c:Bool):Tr P K->PS->(Tr P K->PS->R)->R
 | .w p t1 t2,σ,k=>.w p (λh=>rG c (t1 h) σ k) (λh=>rG c (t2 h) σ k)
 | .x _,_,_=>.a False .nil
 | .v d (q:=q) _ t,σ,k=>match q with
  | .e x=>if vD σ (some d)then .a (PV.le (σ.get d) (.e x)) (rG c t (σ.put (some d) (.e x)) k)else .jM
  |_=>.jM
 | .k ts bs t,σ,k=>if c then k (.k ts bs t) σ else if F1 (σ.cut ts bs)then rG c t (σ.cut ts bs) k else .jM
 | .z id t,σ,k=>if c then k (.z id t) σ else match σ.bo id with
  |some b=>match b.as with
   |some e=>rG c t (σ.xz id e) k
   |none=>.jM
  |none=>.jM
 | .y s id nl T sz el t,σ,k=>if c then k (.y s id nl T sz el t) σ else match σ.bo id,σ.get s with
  |none,.e (.v (.slice none 0 0))=>if !σ.nl||nl then rG c t (σ.Ci s id (.row nl T 0 sz el)) k else .jM
  |_,_=>.jM
 |t,σ,k=>k t σ
def Po(c:Code)(σ:PS)(t:Tr P K)(k:Ex->PS->Tr P K->R):R:=match t with
 | @Tr.s _ _ _ σ' τ e _ _ t=>J3 σ σ' (.a (Sp P K c σ' (λe' τ'=>e'=e/\τ'=τ)) (k e τ t))
 |_=>.jM
def Ex.pV:Ex->Ex->Bool
 | .normal,.normal=>true
 | .ret,.ret=>true
 | .exit a,.exit b=>Nat.beq a b
 |_,_=>false
def Eg(e:Ex)(τ:PS)(e':Ex)(υ:PS)(_:Tr P K):R:=if Ex.pV e' e then J3 υ τ .nil else .jM
def abO:Operand->Nat
 | .tmp t=>2*t
 |_=>1
def jn(c:Nat)(g:PS->Tr P K->(Ex->PS->Tr P K->R)->R)(σ:PS)(t:Tr P K)(k:Ex->PS->Tr P K->R):R:=match t with
 | .j c' τ tj t'=>if Nat.beq c' c then .a (g σ tj (Eg .normal τ)).ok (k .normal τ t')else g σ t k
 |t=>g σ t k
def ZB(f:PS->Tr P K->(Ex->PS->Tr P K->R)->R):Nat->PS->Tr P K->(Ex->PS->Tr P K->R)->R
 | 0,_,_,_=>.jM
 |n+1,σ,t,k=>rG false t σ λt σ=>f σ t λe τ t=>match e with
  | .normal=>ZB f n τ t k
  |e=>k e τ t
def vf(T:List TI):Code->PS->Tr P K->(Ex->PS->Tr P K->R)->R
 | .skip,σ,t,k=>k .normal σ t
 | .region _ ik d,σ,t,k=>Om T ik (λus τ t=>if !d||Df ik 0 us.reverse then k .normal τ t else .jM) ik.toList [] σ t
 | .seq a b,σ,t,k=>vf T a σ t λe τ t=>match e with
  | .normal=>vf T b τ t k
  |e=>k e τ t
 | .cond c a b,σ,t,k=>rG true t σ λt σ=>jn (abO c) (λσ t k=>rG true t σ λt σ=>match σ.op c with
  | .e (.v (.bool true))=>vf T a σ t k
  | .e (.v (.bool false))=>vf T b σ t k
  |_=>.jM) σ t k
 | .block id b,σ,t,k=>rG true t σ λt σ=>jn (2*id+1) (λσ t k=>vf T b σ t λe τ t=>match e with
  | .exit i=>if Nat.beq i id then k .normal τ t else k (.exit i) τ t
  |e=>k e τ t) σ t k
 | .exit id,σ,t,k=>rG false t σ λt σ=>k (.exit id) σ t
 | .ret,σ,t,k=>rG false t σ λt σ=>k .ret σ t
 | .loop b,σ,t,k=>rG false t σ λt σ=>match t with
  | .u n t=>ZB (vf T b) n σ t k
  |t=>Po (.loop b) σ t k
 | .label _,σ,t,k=>k .normal σ t
 | .scope b,σ,t,k=>vf T b σ t k
 |_,_,_,_=>.jM
def Xf{t:Tr P K}{k:Tr P K->R}(h:(FQ t k).ok):∃ t',(k t').ok:=by
 induction t with
 |w p t1 t2 E4 E5=>
  by_cases hp:p
  .exact E4 hp (h.1 hp)
  .exact E5 hp (h.2 hp)
 |x hf=>exact hf.elim
 |_=>exact⟨_,h⟩
def ahT{l:List Prop}{t:Tr P K}{k:Tr P K->R}(h:(Oa l t k).ok):(∀ q,q ∈ l->q)/\∃ t',(k t').ok:=by
 induction l generalizing t with
 |nil=>exact⟨λq hq=>by simp at hq,t,h⟩
 |cons p l ih=>
  obtain⟨h1,h2⟩:=ih h.2;refine⟨λq hq=>?_,h2⟩;rcases de.1 hq with hq|hq
  .subst hq;exact h.1
  .exact h1 q hq
variable {T:List TI} {ik:Array Oper} {σ:PS} {o:Oper}
def ah9{O:pY}{u:kW}{t:Tr P K}{k:kW->Tr P K->R}(hO:O.ov=[])(hu:jQ P K T O σ o=some u)(ho:∀ q,q ∈ u.ki->q)(h:(Oo o u t k).ok):
 ∃ O' u' t',tW P K T O' σ o=some u'/\(∀ q,q ∈ u'.ki->q)/\(k u' t').ok:=by
 have plain:(k u t).ok->∃ O' u' t',tW P K T O' σ o=some u'/\(∀ q,q ∈ u'.ki->q)/\(k u' t').ok:=by
  intro h;refine⟨O,u,t,?_,ho,h⟩;unfold tW;rw[hu,hO];cases o.dst<;>rfl
 unfold Oo at h;split at h
 .rename_i d d' p q MY t' hd;split at h
  .obtain ⟨h1,h2⟩:=h;refine⟨⟨O.cl,[(d,q)],O.nw⟩,_,t',?_,λx hx=>?_,h2⟩
   .unfold tW;have he:jQ P K T ⟨O.cl,[(d,q)],O.nw⟩ σ o=jQ P K T O σ o:=by cases O;rfl
    rw[he,hu,hd];simp[look]
   .rcases de.1 hx with hx|hx
    .subst hx;exact h1
    .exact ho x hx
  .exact plain h
 .exact plain h
def ah2{t:Tr P K}{k:kW->Tr P K->R}(h:(Oh T ik σ o t k).ok):∃ u t',(∃ O,qT P K T O ik σ o=some u)/\(∀ q,q ∈ u.ki->q)/\(k u t').ok:=by
 unfold Oh at h;split at h
 .rename_i hi;split at h
  .rename_i hw;refine⟨_,t,⟨{},?_⟩,λq hq=>by simp at hq,h⟩;unfold qT;rw[bn hi,hw]
  .rename_i hw;obtain⟨t1,h1⟩:=Xf h;split at h1
   .rename_i u hu;obtain⟨ho,t2,h2⟩:=ahT h1;obtain⟨t2,h2⟩:=Xf h2;obtain⟨O',u',t3,CW,IF,h3⟩:=ah9 (by
     unfold Rn;cases o.dst with
     |none=>rfl
     |some d=>cases t1<;>rfl) hu ho h2
    refine⟨{ u' with rd:=(looks ik o).map σ.get },t3,⟨O',?_⟩,IF,h3⟩;unfold qT;rw[bn hi,hw,CW]
   .exact h1.elim
  .exact h.elim
 .exact h.elim
def ah5{k:List (Oper×kW)->PS->Tr P K->R}{l:List Oper}{us:List (Oper×kW)}{t:Tr P K}(h:(Om T ik k l us σ t).ok):
 ∃ vs τ t',we P K T ik vs σ τ/\vs.map (·.1)=l/\(∀ x,x ∈ vs->∀ q,q ∈ x.2.ki->q)/\(k (vs.reverse++us) τ t').ok:=by
 induction l generalizing us σ t with
 |nil=>exact⟨[],σ,t,rP.refl σ,rfl,λx hx=>by simp at hx,h⟩
 |cons o l ih=>
  obtain⟨u,t1,h1,h2,h3⟩:=ah2 h;obtain⟨vs,τ,t',k1,k2,k3,k4⟩:=ih h3;refine⟨(o,u)::vs,τ,t',⟨h1,k1⟩,by simp[k2],λx hx=>?_,by simpa using k4⟩;rcases de.1 hx with hx|hx
  .subst hx;exact h2
  .exact k3 x hx
def PS.le.set{σ:PS}{d:Nat}{x:E}(hd:vD σ (some d)=true)(h:PV.le (σ.get d) (.e x)):PS.le σ (σ.put (some d) (.e x)):=λw0 B a w L _ r=>by
 have Ey:d<σ.n:=by simpa[vD,Nat.blt_eq]using hd
 refine⟨L,r.hd,by rw[PS.NL];exact r.hs,λt=>?_,λid b hb=>r.hb id b hb,r.hv,r.hn,r.hw,r.hi,r.he,r.hl⟩;rw[PS.LO];by_cases e:d=t
 .subst e;rw[bn rfl];exact h _ _ _ _ _ (r.ht d)
 .rw [bl e];exact r.ht t
def BO{c:Bool}{t:Tr P K}{σ:PS}{k:Tr P K->PS->R}(h:(rG c t σ k).ok):∃ t' τ,PS.le σ τ/\(k t' τ).ok:=by
 induction t generalizing σ with
 |w p t1 t2 E4 E5=>
  by_cases hp:p
  .exact E4 hp (h.1 hp)
  .exact E5 hp (h.2 hp)
 |k ts bs t ih=>
  simp only[rG]at h;split at h
  .exact ⟨_,σ,PS.le.refl σ,h⟩
  split at h
  .rename_i hr;obtain⟨t',τ,h1,h2⟩:=ih h;exact⟨t',τ,(PS.le.cut ts bs hr).trans h1,h2⟩
  .exact h.elim
 |v d h0 t ih=>
  simp only[rG]at h;split at h
  .rename_i x;split at h
   .rename_i hd;obtain⟨t',τ,h1,h2⟩:=ih h.2;exact⟨t',τ,(PS.le.set hd h.1).trans h1,h2⟩
   .exact h.elim
  .exact h.elim
 |z id t ih=>
  simp only[rG]at h;split at h
  .exact ⟨_,σ,PS.le.refl σ,h⟩
  split at h
  .rename_i b hb;split at h
   .rename_i e he;obtain⟨t',τ,h1,h2⟩:=ih h;exact⟨t',τ,(PS.le.freeze id hb he).trans h1,h2⟩
   .exact h.elim
  .exact h.elim
 |y s id nl T sz el t ih=>
  simp only[rG]at h;split at h
  .exact ⟨_,σ,PS.le.refl σ,h⟩
  split at h
  .rename_i hb hg;split at h
   .rename_i hn;obtain⟨t',τ,h1,h2⟩:=ih h;exact⟨t',τ,(PS.le.Z6 s id hb hg (λe=>by rw[e]at hn;simpa using hn)).trans h1,h2⟩
   .exact h.elim
  .exact h.elim
 |x hf=>exact hf.elim
 |_=>exact⟨_,σ,PS.le.refl σ,h⟩
def alx{υ:PS}{l:List (Nat×PV)}{r:R}(h:(Px υ l r).ok):xp υ l/\r.ok:=by
 induction l with
 |nil=>exact⟨trivial,h⟩
 |cons x l ih=>obtain⟨d,q⟩:=x;exact⟨⟨h.1,(ih h.2).1⟩,(ih h.2).2⟩
def aaK{υ:PS}{l:List (Nat×Bx)}{r:R}(h:(GH υ l r).ok):vW υ l/\r.ok:=by
 induction l with
 |nil=>exact⟨trivial,h⟩
 |cons x l ih=>
  obtain⟨d,q⟩:=x;simp only[GH]at h;split at h
  .rename_i b hb;exact⟨⟨⟨b,hb,h.1⟩,(ih h.2).1⟩,(ih h.2).2⟩
  .exact h.elim
def YW{υ σ:PS}{r:R}(h:(J3 υ σ r).ok):PS.le υ σ/\r.ok:=by
 unfold J3 at h;split at h
 .rename_i hc;simp only[bY,eX,beq_iff_eq]at hc;obtain⟨⟨h1,h2⟩,h3⟩:=hc;obtain⟨h4,h5⟩:=alx h;obtain⟨h6,h7⟩:=aaK h5;refine⟨?_,h7⟩;rcases h2 with h2|h2
  .exact PS.le.agd (mR.1 h1) h2 h3 h4 h6
  .exact PS.le.pC (mR.1 h1) h2 h3 h4 h6
 .exact h.elim
def akv(hT:mI P T){w0:World}{B:Nat->Prop}{a:Act}{w:World}{L:Lk}(g:Gd P K w0 B){us:List (Oper×kW)}{τ:PS}{Q:Exit->Act->World->Prop}(h:we P K T ik us σ τ)(ho:∀ x,x ∈ us->∀ q,q ∈ x.2.ki->q)
 (r:jJ w0 B σ a w L) (hq:∀ a' w' L',jJ w0 B τ a' w' L'->Q .normal a' w'):wpList P ik Q (us.map (·.1)) a w:=by
 induction us generalizing σ a w L with
 |nil=>exact hq a w L (r.pV h)
 |cons x us ih=>
  obtain⟨⟨O,h1⟩,h2⟩:=h;rw[fF];unfold wpList;rcases SV hT g r h1 (ho x aJ) (wpList P ik Q (us.map (·.1))) Q (λa' w' L' hr=>ih h2 (λy hy=>ho y (by simp[hy])) hr)with⟨p1,p2⟩|⟨p1,p2⟩
  .rw [bn p1];exact .inl p2
  .rw [bl (by rw[p1];simp)];exact p2
def ajT(hT:mI P T)(hm:P.follows .mixedOrders=true){w0:World}{B:Nat->Prop}{a:Act}{w:World}{L:Lk}(g:Gd P K w0 B){id:Nat}{draw:Bool}{us:List (Oper×kW)}{τ:PS}{Q:Exit->Act->World->Prop}
 (h:we P K T ik us σ τ) (hl:us.map (·.1)=ik.toList) (ho:∀ x,x ∈ us->∀ q,q ∈ x.2.ki->q) (hp:(!draw||Df ik 0 us)=true) (r:jJ w0 B σ a w L)
 (hq:∀ a' w' L',jJ w0 B τ a' w' L'->Q .normal a' w'):(Code.region id ik draw).wp P Q a w:=by
 cases draw with
 |false=>exact wp_region_list (by rw[<-hl];exact akv hT g h ho r hq)
 |true=>
  obtain⟨R,r1,r2,r3⟩:=ago hl (by simpa using hp);refine wp_region_any hm (aab hT g hq ik.size (Array.replicate ik.size false) R σ a w.drew L r2 aJ r3 (λx hx=>ho x.2 ?_) (by rw[r1];exact h) r.drew);rw[<-r1];exact cR.2 ⟨x,hx,rfl⟩
def ak5{c:Code}{t:Tr P K}{k:Ex->PS->Tr P K->R}(h:(Po c σ t k).ok):Sp P K c σ (λe τ=>∃ t',(k e τ t').ok):=by
 unfold Po at h;split at h
 .obtain ⟨h1,h2,h3⟩:=YW h;exact Sp.pre h1 (h2.mono λe τ ⟨q1,q2⟩=>by subst q1 q2;exact⟨_,h3⟩)
 .exact h.elim
def Ex.akw{a b:Ex}(h:Ex.pV a b=true):a=b:=by
 cases a<;>cases b<;>first|rfl|(cases h;done)|exact congrArg Ex.exit (mR.1 h)
def SI{e e':Ex}{τ υ:PS}{t:Tr P K}(h:(Eg e τ e' υ t).ok):e'=e/\PS.le υ τ:=by
 unfold Eg at h;split at h
 .rename_i he;exact⟨Ex.akw he,(YW h).1⟩
 .exact h.elim
def VN{c:Code}{cb:Nat}{g:PS->Tr P K->(Ex->PS->Tr P K->R)->R}(hg:∀ σ t k,(g σ t k).ok->Sp P K c σ (λe τ=>∃ t',(k e τ t').ok)){σ:PS}{t:Tr P K}{k:Ex->PS->Tr P K->R}(h:(jn cb g σ t k).ok):
 Sp P K c σ (λe τ=>∃ t',(k e τ t').ok):=by
 unfold jn at h;split at h
 .rename_i c' τ tj t;split at h
  .refine (hg _ _ _ h.1).post λe υ ⟨t',ht⟩=>?_
   obtain⟨he,hl⟩:=SI ht;exact⟨τ,hl,t,by rw[he];exact h.2⟩
  .exact hg _ _ _ h
 .exact hg _ _ _ h
def wh(P:Program)(K:World->Prop)(b:Code)(σ:PS)(Q:Ex->PS->Prop):Prop:=
 ∀ (w0:World) (B:Nat->Prop) (a:Act) (w:World) (L:Lk),Gd P K w0 B->jJ w0 B σ a w L->∀ bf k cs,
  ∃ e a' w',(∃ ex τ L',e=Ex.to ex/\Q ex τ/\jJ w0 B τ a' w' L')/\Arrives P (lone (bf.at a (.code b :: .inLoop b::k)) cs w) bf k cs e a' w'
def wh.loop{b:Code}{σ:PS}{Q:Ex->PS->Prop}(h:wh P K b σ Q):Sp P K (.loop b) σ Q:=by
 intro w0 B a w L g r bf k cs;obtain⟨e,a',w',hq,wF⟩:=h w0 B a w L g r bf k cs;exact⟨e,a',w',hq,.of_steps (.one step_loop) wF⟩
def wh.pre{b:Code}{σ τ:PS}{Q:Ex->PS->Prop}(h:PS.le σ τ)(k:wh P K b τ Q):wh P K b σ Q:=λw0 B a w L g r=>
 let⟨L',r'⟩:=h w0 B a w L (λb hb=>(g.hB b hb).1) r;k w0 B a w L' g r'
def wh.step{b:Code}{σ:PS}{Q:Ex->PS->Prop}(h:Sp P K b σ (λe τ=>(e = .normal/\wh P K b τ Q)\/(e ≠ .normal/\Q e τ))):wh P K b σ Q:=by
 intro w0 B a w L g r bf k cs;obtain⟨e,a₁,w₁,⟨ex,υ,L2,rfl,hq,nU⟩,wF⟩:=h w0 B a w L g r bf (.inLoop b::k) cs;rcases hq with⟨rfl,hs⟩|⟨kq,hq⟩
 .obtain ⟨e₂,a₂,w₂,MZ,Mo⟩:=hs w0 B a₁ w₁ L2 g nU bf k cs;exact⟨e₂,a₂,w₂,MZ,.of_steps (Steps.trans wF (.one step_inLoop)) Mo⟩
 .cases ex with
  |normal=>exact absurd rfl kq
  |exit i=>exact⟨_,a₁,w₁,⟨.exit i,υ,L2,rfl,hq,nU⟩,.pass (x:=.inLoop b) rfl (λ_ _=>.inl (by simp[Ex.to])) wF⟩
  |ret=>exact⟨_,a₁,w₁,⟨.ret,υ,L2,rfl,hq,nU⟩,.pass (x:=.inLoop b) rfl (λ_ _=>.inl (by simp[Ex.to])) wF⟩
def LB(hT:mI P T)(hm:P.follows .mixedOrders=true){c:Code}{σ:PS}{t:Tr P K}{k:Ex->PS->Tr P K->R}(h:(vf T c σ t k).ok):Sp P K c σ (λe τ=>∃ t',(k e τ t').ok):=by
 induction c generalizing σ t k with
 |skip=>exact λw0 B a w L g r=>wp_skip ⟨.normal,_,L,rfl,⟨t,h⟩,r⟩
 |region id ik d=>
  obtain⟨vs,τ,t',h1,h2,h3,h4⟩:=ah5 h;split at h4
  .rename_i hp;simp only[List.append_nil,List.reverse_reverse]at hp;exact λw0 B a w L g r=>ajT hT hm g h1 h2 h3 hp r λa' w' L' hr=>⟨.normal,τ,L',rfl,⟨t',h4⟩,hr⟩
  .exact h4.elim
 |seq x y Na Nb=>
  intro w0 B a w L g r;refine wp_seq (Code.wp_mono ?_ (Na h w0 B a w L g r));rintro ex a' w' ⟨e1,τ1,L',rfl,⟨t',ht⟩,hr⟩;cases e1 with
  |normal=>exact Nb ht w0 B a' w' L' g hr
  |exit i=>exact⟨.exit i,τ1,L',rfl,⟨t',ht⟩,hr⟩
  |ret=>exact⟨.ret,τ1,L',rfl,⟨t',ht⟩,hr⟩
 |cond c x y Na Nb=>
  obtain⟨t1,τ,hle,h1⟩:=BO h;refine Sp.pre hle (VN (λσ t k h=>?_) h1);obtain⟨t1,τ,hle,h1⟩:=BO h;refine Sp.pre hle ?_;split at h1
  .rename_i hc;intro w0 B a w L g r;have hv:=r.op c;rw[hc]at hv;exact wp_cond_true (iR.kN hv) (Na h1 w0 B a w L g r)
  .rename_i hc;intro w0 B a w L g r;have hv:=r.op c;rw[hc]at hv;exact wp_cond_false (iR.kN hv) (Nb h1 w0 B a w L g r)
  .exact h1.elim
 |block id b ih=>
  obtain⟨t1,τ,hle,h1⟩:=BO h;refine Sp.pre hle (VN (λσ t k h=>?_) h1);intro w0 B a w L g r;refine wp_block (Code.wp_mono ?_ (ih h w0 B a w L g r));rintro ex a' w' ⟨e1,τ1,L',rfl,⟨t',ht⟩,hr⟩;cases e1 with
  |normal=>exact⟨.normal,_,L',rfl,⟨t',ht⟩,hr⟩
  |ret=>exact⟨.ret,_,L',rfl,⟨t',ht⟩,hr⟩
  |exit i=>
   simp only at ht;show Exit.inBlock id _ (.exit i) a' w';split at ht
   .rename_i hi;have hi:=mR.1 hi;subst hi;simp only[Exit.inBlock,bN];exact⟨.normal,_,L',rfl,⟨t',ht⟩,hr⟩
   .rename_i hi;have hi:i≠id:=λe=>hi (mR.2 e)
    simp only[Exit.inBlock,hi,bF];exact⟨.exit i,_,L',rfl,⟨t',ht⟩,hr⟩
 |label l=>exact λw0 B a w L g r=>wp_label ⟨.normal,_,L,rfl,⟨t,h⟩,r⟩
 |scope b ih=>
  intro w0 B a w L g r;refine wp_scope_straight (Code.wp_mono ?_ (ih h w0 B a w L g r));rintro ex a' w' ⟨e1,τ1,L',rfl,⟨t',ht⟩,hr⟩;cases e1 with
  |normal=>exact⟨.normal,τ1,L',rfl,⟨t',ht⟩,hr⟩
  |ret=>exact⟨.ret,τ1,L',rfl,⟨t',ht⟩,hr⟩
  |exit i=>exact⟨.exit i,τ1,L',rfl,⟨t',ht⟩,hr⟩
 |exit id=>
  obtain⟨t1,τ,hle,h1⟩:=BO h;exact Sp.pre hle λw0 B a w L g r=>wp_exit ⟨.exit id,_,L,rfl,⟨t1,h1⟩,r⟩
 |ret=>
  obtain⟨t1,τ,hle,h1⟩:=BO h;exact Sp.pre hle λw0 B a w L g r=>wp_ret ⟨.ret,_,L,rfl,⟨t1,h1⟩,r⟩
 |loop b ih=>
  obtain⟨t1,τ,hle,h1⟩:=BO h;refine Sp.pre hle ?_;split at h1
  .rename_i n t;clear hle h;refine wh.loop ?_
   induction n generalizing τ t with
   |zero=>exact h1.elim
   |succ n ihn=>
    obtain⟨t2,τ2,hle,h1⟩:=BO h1;refine wh.pre hle (wh.step ((ih h1).mono λe υ ⟨t',ht⟩=>?_));cases e with
    |normal=>exact .inl ⟨rfl,ihn _ _ ht⟩
    |exit i=>exact .inr ⟨aJ,t',ht⟩
    |ret=>exact .inr ⟨aJ,t',ht⟩
  .exact ak5 h1
 |_=>exact h.elim
def Sp.tr(hT:mI P T)(hm:P.follows .mixedOrders=true){c:Code}{σ τ:PS}{e:Ex}(t:Tr P K)(h:vf T c σ t (Eg e τ)=t.ex λt=>Dv τ t .nil):
 Sp P K c σ (λe' τ'=>e'=e/\τ'=τ):=by
 have hk:=Tr.LH (fin:=λt=>Dv τ t .nil) (λt=>Pq trivial) t;rw[<-h]at hk;refine(LB hT hm hk).post λe' υ ⟨t',ht⟩=>?_
 obtain⟨he,hl⟩:=SI ht;exact⟨τ,hl,he,rfl⟩
def S7(T:List TI)(fn:Func)(kj:E)(e:Ex)(τ:PS)(_:Tr P K):R:=match e with
 | .exit _=>.jM
 |_=>match JM T fn τ with
  |some r=>.a (E.le r kj) .nil
  |none=>.jM
def OU(T:List TI)(fn:Func)(nl:Bool)(args:List E)(kj:E)(t:Tr P K):R:=match fn.body with
 |some c=>if Nat.ble args.length fn.ntmps then vf T c (Ai fn nl args) t (S7 T fn kj)else .jM
 |none=>.jM
def PC.PA(hT:mI P T)(hm:P.follows .mixedOrders=true)(hp:∀ w w',K w->Below w.heap.size w w'->K w'){f:FuncId}{fn:Func}{args:List E}{kj:E}(wI:∀ (vs:Array Value) (w:World),(callFunc f vs).run P w = .ok (.enter f vs) w)
 (hf:P.funcs[f]? = some fn) (nl:Bool) (t:Tr P K) (h:OU T fn nl args kj t=t.ex λ_=>.a (E.le kj kj) .nil):PC P K f args kj:=by
 have hk:=Tr.LH (fin:=λ_=>.a (E.le kj kj) .nil) (λt=>⟨E.le.refl kj,trivial⟩) t;rw[<-h]at hk;unfold OU at hk;split at hk
 .rename_i c hb;split at hk
  .rename_i hn;refine PC.NI hT hm hp wI hf hb (dq hn) nl ((LB hT hm hk).mono λe τ ⟨t',ht⟩=>?_);unfold S7 at ht;split at ht
   .exact ht.elim
   .rename_i kq;split at ht
    .rename_i r hr;refine⟨?_,r,hr,ht.1⟩;cases e with
     |normal=>exact .inr rfl
     |ret=>exact .inl rfl
     |exit i=>exact absurd rfl (kq i)
    .exact ht.elim
  .exact hk.elim
 .exact hk.elim
def S6(fn:Func)(b:Bx)(e:Ex)(τ:PS)(_:Tr P K):R:=match e with
 | .exit _=>.jM
 |_=>match fn.results.toList with
  | [.tmp t]=>match τ.get t with
   | .own id=>match τ.bo id with
    |some c=>.a (Bx.le c b) .nil
    |none=>.jM
   |_=>.jM
  |_=>.jM
def OT(T:List TI)(fn:Func)(args:List E)(b:Bx)(t:Tr P K):R:=match fn.body with
 |some c=>if Nat.ble args.length fn.ntmps then vf T c (Ai fn true args) t (S6 fn b)else .jM
 |none=>.jM
def uO.PA(hT:mI P T)(hm:P.follows .mixedOrders=true)(hp:∀ w w',K w->Below w.heap.size w w'->K w'){f:FuncId}{fn:Func}{args:List E}{nl:Bool}{T0:TypeId}{n sz:Nat}{el:Nat->Nat->E}(wI:∀ (vs:Array Value) (w:World),(callFunc f vs).run P w = .ok (.enter f vs) w)
 (hf:P.funcs[f]? = some fn) (t:Tr P K) (h:OT T fn args (.row nl T0 n sz el) t=t.ex λ_=>.a (Bx.le (.row nl T0 n sz el) (.row nl T0 n sz el)) .nil):uO P K f args nl T0 n sz el:=by
 have hk:=Tr.LH (fin:=λ_=>.a (Bx.le (.row nl T0 n sz el) (.row nl T0 n sz el)) .nil) (λt=>⟨Bx.le.refl _,trivial⟩) t;rw[<-h]at hk;unfold OT at hk;split at hk
 .rename_i c hb;split at hk
  .rename_i hn;refine uO.NI hT hm hp wI hf hb (dq hn) true ((LB hT hm hk).mono λe τ ⟨t',ht⟩=>?_);unfold S6 at ht;split at ht
   .exact ht.elim
   .rename_i kq;split at ht
    .rename_i t0 hr;split at ht
     .rename_i id hg;split at ht
      .rename_i c' hc;refine⟨?_,t0,id,c',hr,hg,hc,λbs br L w hk=>ht.1.2 _ _ _ _ _ hk⟩;cases e with
       |normal=>exact .inr rfl
       |ret=>exact .inl rfl
       |exit i=>exact absurd rfl (kq i)
      .exact ht.elim
     .exact ht.elim
    .exact ht.elim
  .exact hk.elim
 .exact hk.elim
def Sp.jP{b:Code}{e:Ex}{τ:PS}(f:Nat->PS)(lo hi:Nat)(h0:lo<=hi)(go:∀ x,(lo<=x/\x<=hi)->x<hi->Sp P K b (f x) (λe' υ=>e' = .normal/\υ=f (x+1)))
 (out:(lo<=hi/\hi<=hi)->Sp P K b (f hi) (λe' υ=>e'=e/\υ=τ)) (he:e ≠ .normal):Sp P K (.loop b) (f lo) (λe' υ=>e'=e/\υ=τ):=by
 refine Sp.fam f (λx=>lo<=x/\x<=hi) (λx=>hi-x) (λx hx=>?_) lo ⟨bp _,h0⟩ (PS.le.refl _);rcases anq hx.2 with iO|heq
 .exact Sp.adI (x+1) (go x hx iO) ⟨aD,aD⟩ aD (PS.le.refl _)
 .subst heq;exact Sp.adJ (out hx) he (PS.le.refl _)
def iC(z:Int)(h:-9223372036854775808<=z/\z<=9223372036854775807):Tr P K->Tr P K:=.a (p:=nA .i64 z) h
def nH(z:Int)(h:0<=z/\z<=18446744073709551615):Tr P K->Tr P K:=.a (p:=nA .u64 z) h
def iX(z:Int)(n:Nat)(h:0<=z/\z<n):Tr P K->Tr P K:=.a h
def tB(d:Nat){a b:Bool}(h:a=b):Tr P K->Tr P K:=.o d (PV.le.bool h)
def ah(d:Nat)(a:Bool)(h:a=true):Tr P K->Tr P K:=tB d h
def ai(d:Nat)(a:Bool)(h:a=false):Tr P K->Tr P K:=tB d h
def tT(d:Nat)(p:Prop)[Decidable p](h:p):Tr P K->Tr P K:=.o d (PV.le.bool (bq h))
def tF(d:Nat)(p:Prop)[Decidable p](h:¬p):Tr P K->Tr P K:=.o d (PV.le.bool (bt h))
def wm{b:Bool}(h:b=true):(!b)=false:=by rw[h];rfl
def wk{b:Bool}(h:b=false):(!b)=true:=by rw[h];rfl
def rQ(p q:E)(h:p=q):Tr P K:=.r (E.le.jb h)
def rR(q:E){p:E}(h:E.le p q):Tr P K:=.r h
def ae(l:List (Tr P K->Tr P K))(t:Tr P K):Tr P K:=l.foldr (λf t=>f t) t
def af(l:List (Tr P K->Tr P K)):Tr P K:=ae l .nil
end
end Go.Proofs.YtbhhompalmdaiaaGreatDoor.Pu
namespace Go.Proofs.YtbhhompalmdaiaaGreatDoor
open Go.RowKit Fp Pu
def tr(nl:Bool){f:FuncId}{fn:Func}{args:List E}{kj:E}(wI:∀ (vs:Array Value) (w:World),(callFunc f vs).run prog w = .ok (.enter f vs) w)
 (hf:prog.funcs[f]? = some fn) (t:Tr prog Tb) (h:OU TT fn nl args kj t=t.ex λ_=>.a (E.le kj kj) .nil):ig f args kj:=
 PC.PA AU mixed Qd wI hf nl t h
def ag(args:List E){f:FuncId}{ko:E}(h:ig f args ko):Tr prog Tb->Tr prog Tb:=.c h
def ak{f:FuncId}{fn:Func}{args:List E}{kj:E}(wI:∀ (vs:Array Value) (w:World),(callFunc f vs).run prog w = .ok (.enter f vs) w)
 (hf:prog.funcs[f]? = some fn) (t:Tr prog Tb) (h:OU TT fn true args kj t=t.ex λ_=>.a (E.le kj kj) .nil:=by kernel_rfl):ig f args kj:=tr true wI hf t h
def al{f:FuncId}{fn:Func}{args:List E}{kj:E}(wI:∀ (vs:Array Value) (w:World),(callFunc f vs).run prog w = .ok (.enter f vs) w)
 (hf:prog.funcs[f]? = some fn) (t:Tr prog Tb) (h:OU TT fn false args kj t=t.ex λ_=>.a (E.le kj kj) .nil:=by kernel_rfl):ig f args kj:=tr false wI hf t h
def iM{c:Code}{σ τ:PS}{e:Ex}(t:Tr prog Tb)(h:vf TT c σ t (Eg e τ)=t.ex λt=>Dv τ t .nil):
 Sp prog Tb c σ (λe' τ'=>e'=e/\τ'=τ):=Sp.tr AU mixed t h
abbrev jO(k:Nat)(fn:Func)(σ:PS)(e:Ex)(τ:PS):Prop:=Sp prog Tb (.loop (aa5 k fn)) σ (λe' τ'=>e'=e/\τ'=τ)
end Go.Proofs.YtbhhompalmdaiaaGreatDoor
namespace Go.Proofs.YtbhhompalmdaiaaGreatDoor.Fp
def iH(n k:Nat):Nat:=n/4294967296^k%4294967296
def pt(n k:Nat):iH n k<4294967296:=bC _ aF 
def Ba(k:Nat):iH 0 k=0:=by unfold iH;rw[fO]
def pw(k:Nat):0<4294967296^k:=bA aF 
def px{L:List Nat}(h:iK L)(k:Nat):L.getD k 0=iH (val L) k:=by
 unfold iH;rw[<-Gi h];by_cases hk:k<L.length
 .rw [fB hk,show val (L[k]::L.drop (k+1))=L[k]+4294967296*val (L.drop (k+1))from rfl,eJ,bQ (h.get hk)];simp[bu,hk]
 .rw [eK aD,bu,cw aD];rfl
def mod_succ(n k:Nat):n%4294967296^(k+1)=n%4294967296^k+4294967296^k*iH n k:=by
 rw[bG,gy];rfl
def uW{n k:Nat}(h:n<4294967296^k){j:Nat}(hj:k<=j):iH n j=0:=by
 unfold iH;rw[cA (bT h (bI aF hj))]
def iY(n m:Nat):List Nat:=(List.range m).map (iH n)
def mP(n m:Nat):(iY n m).length=m:=by simp[iY]
def tn(n m:Nat):iK (iY n m):=λx hx=>by
 obtain⟨k,_,rfl⟩:=cR.1 hx;exact pt n k
def tm{n m k:Nat}(h:k<m):(iY n m).getD k 0=iH n k:=by
 simp[iY,bu,h]
def G7(m i:Nat):(iY 0 m).getD i 0=0:=by
 by_cases h:i<m
 .rw [tm h,Ba]
 .rw [bu,cw (by rw[mP];omega)];rfl
def ab7(n m:Nat):iY n (m+1)=iY n m++[iH n m]:=by simp[iY,List.range_succ]
def xl(n m:Nat):val (iY n m)=n%4294967296^m:=by
 induction m with
 |zero=>simp[iY,val];omega
 |succ m ih=>
  rw[ab7,uK,ih,mP,mod_succ];rfl
def al4{L M:List Nat}(hL:iK L)(hM:iK M)(hl:L.length=M.length)(hv:val L=val M):L=M:=by
 apply dU hl;intro i h1 h2;have e1:=px hL i;have e2:=px hM i;rw[hv,<-e2]at e1;simpa[bu,h1,h2]using e1
def ab8{L:List Nat}(h:iK L):iY (val L) L.length=L:=
 al4 (tn _ _) h (mP _ _) (by rw[xl,bQ (mC h)])
def G8{L:List Nat}{n m:Nat}(h:iK L)(hl:L.length=m)(hv:val L=n):iY n m=L:=by subst hl hv;exact ab8 h
def B5{n m:Nat}(h:n<4294967296^m):iy (iY n m)=ij n:=by
 rw[rJ (tn n m),xl,bQ h]
def Ld(n:Nat):iY n (ij n).length=ij n:=G8 (kS n) rfl (jR n)
def kP(a b k m:Nat):List Nat:=(List.range m).map λj=>if j<k then iH a j else iH b j
def uC(a b k m:Nat):(kP a b k m).length=m:=by simp[kP]
def agY{a b k m j:Nat}(h:j<m):(kP a b k m).getD j 0=if j<k then iH a j else iH b j:=by
 simp[kP,bu,h]
def Fv{a b k m:Nat}(h:k<m):(kP a b k m).getD k 0=iH b k:=by rw[agY h,bl (e9 k)]
def Fw(a b m:Nat):kP a b 0 m=iY b m:=by simp[kP,iY]
def Ja{a b k m:Nat}(h:m<=k):kP a b k m=iY a m:=by
 unfold kP iY;exact ev λj hj=>bn (bT (cz.1 hj) h)
def Jb{a b k m:Nat}:(kP a b k m).set k (iH a k)=kP a b (k+1) m:=by
 apply dU
 .simp [kP]
 .intro j h1 h2;have hj:j<m:=by simpa[kP]using h2
  rw[anr];by_cases h:k=j
  .subst h;simp[kP]
  .rw [bl h];simp only[kP,dV,ey];by_cases q:j<k
   .rw [bn q,bn aD]
   .rw [bl q,bl aD]
def agZ{a b k m:Nat}:(kP a b (k+1) m).set k (iH b k)=kP a b k m:=by
 apply dU
 .simp [kP]
 .intro j h1 h2;have hj:j<m:=by simpa[kP]using h2
  rw[anr];by_cases h:k=j
  .subst h;simp[kP]
  .rw [bl h];simp only[kP,dV,ey];by_cases q:j<k
   .rw [bn q,bn aD]
   .rw [bl q,bl aD]
def Lg(a k:Nat):a/4294967296^k=4294967296*(a/4294967296^(k+1))+iH a k:=by
 rw[bG,<-cU];unfold iH;omega
def akO{a d k:Nat}(hd:0<d)(sy:d<4294967296):(a/4294967296^(k+1)%d*4294967296+iH a k)/d=iH (a/d) k/\(a/4294967296^(k+1)%d*4294967296+iH a k)%d=a/4294967296^k%d:=by
 have e1:=Lg a k;have e2:=cB (a/4294967296^(k+1)) d;have e3:=bC (a/4294967296^(k+1)) hd;have e4:=pt a k;have e5:a/4294967296^k=d*(4294967296*(a/4294967296^(k+1)/d))+(a/4294967296^(k+1)%d*4294967296+iH a k):=by
  rw[e1,dt];omega
 have e6:(a/4294967296^(k+1)%d*4294967296+iH a k)/d<4294967296:=by
  rw[cr hd];have:=bR 4294967296 (show a/4294967296^(k+1)%d+1<=d from e3);omega
 constructor
 .conv=>rhs;unfold iH
  rw[cU,bE d,<-cU,e5,dJ hd,ep,bQ e6]
 .rw [e5,ep]
def SN{a b N:Nat}(ha:a<4294967296^N)(hb:b<4294967296^N)(h:∀ i,i<N->iH a i=iH b i):a=b:=by
 have e1:val (iY a N)=a:=by rw[xl,bQ ha]
 have e2:val (iY b N)=b:=by rw[xl,bQ hb]
 rw[<-e1,<-e2];congr 1;exact ev λj hj=>h j (cz.1 hj)
def ack{a b N j:Nat}(ha:a<4294967296^N)(hb:b<4294967296^N)(h:∀ i,j<=i->iH a i=iH b i):a/4294967296^j=b/4294967296^j:=by
 have e:∀ (n i:Nat),iH (n/4294967296^j) i=iH n (j+i):=λn i=>by unfold iH;rw[cU,<-bw]
 refine SN (N:=N) (cK (cE _ _) ha) (cK (cE _ _) hb) λi _=>?_
 rw[e,e];exact h _ aD 
def V3{a b N j:Nat}(ha:a<4294967296^N)(hb:b<4294967296^N)(h:∀ i,j<i->iH a i=iH b i)(hd:iH a j<iH b j):a<b:=by
 have e:=ack (j:=j+1) ha hb λi hi=>h i hi
 have e1:=Lg a j;have e2:=Lg b j;have:a/4294967296^j<b/4294967296^j:= aD ;exact amR λhle=>by
  have:=Nat.div_le_div_right (c:=4294967296^j) hle;omega
def QX{n k:Nat}(h:n<4294967296^(k+1))(hd:iH n k≠0):iA n=32*k+iA (iH n k):=by
 have e1:iH n k=n/4294967296^k:=by
  unfold iH;rw[bQ];rw[cr (pw k),bE 4294967296,<-bG];exact h
 have h1:=rk hd;have h2:=pE (iH n k);have h3:=nj hd;obtain⟨m,hm⟩:∃ m,iA (iH n k)=m+1:=⟨iA (iH n k)-1,aD⟩
 rw[hm]at h1 h2 ⊢;rw[eD]at h1;rw[<-dh];have hp:(4294967296:Nat)^k=2^(32*k):=nF k;refine uT ?_ ?_
 .rw [e1,dB (pw k),hp,<-bw,eR]at h1;exact h1
 .rw [e1,cr (pw k),hp,<-bw,(aD:m+1+32*k=32*k+m+1)]at h2;exact h2
def jK(a b k:Nat):Nat:=(a%4294967296^k+b%4294967296^k)/4294967296^k
def GS(a b:Nat):jK a b 0=0:=by unfold jK;simp[dn]
def th(a b k:Nat):jK a b k<=1:=by
 unfold jK;have h1:=bC a (pw k);have h2:=bC b (pw k);have:(a%4294967296^k+b%4294967296^k)/4294967296^k<2:=by rw[cr (pw k)];omega
 omega
def KG(a b k:Nat):(a+b)/4294967296^k=a/4294967296^k+b/4294967296^k+jK a b k:=by
 unfold jK;have h1:=cB a (4294967296^k);have h2:=cB b (4294967296^k);have h3:=dJ (pw k) (a/4294967296^k+b/4294967296^k) (a%4294967296^k+b%4294967296^k);rw[<-h3];congr 1;rw[bM];omega
def yw(a b k:Nat):iH a k+iH b k+jK a b k=iH (a+b) k+4294967296*jK a b (k+1):=by
 have h1:jK a b (k+1)=(iH a k+iH b k+jK a b k)/4294967296:=by
  conv=>lhs;unfold jK
  rw[mod_succ,mod_succ,bG,<-cU];congr 1;have h3:=dJ (pw k) (iH a k+iH b k) (a%4294967296^k+b%4294967296^k);unfold jK;rw[<-h3];congr 1;rw[bM];omega
 have h2:iH (a+b) k=(iH a k+iH b k+jK a b k)%4294967296:=by
  conv=>lhs;unfold iH
  rw[KG];unfold iH;omega
 rw[h1,h2];exact(ef _ _).symm
def abh{a b k:Nat}(h:a+b<4294967296^k):jK a b k=0:=by
 have h0:=KG a b k;rw[cA h]at h0;exact(Nat.add_eq_zero_iff.1 h0.symm).2
def abi{a b k:Nat}(ha:a<4294967296^k)(hb:b<4294967296^k):jK a b (k+1)=0:=by
 apply abh;rw[bG];omega
def Y0{a b:Nat}(h:b<=a)(k:Nat):iH a k+4294967296-iH b k-jK (a-b) b k=iH (a-b) k+4294967296*(1-jK (a-b) b (k+1)):=by
 have h1:=yw (a-b) b k;rw[fA h]at h1;have h2:=th (a-b) b (k+1);have h3:=pt b k;have h4:=th (a-b) b k;have h5:=pt (a-b) k;omega
def akQ(n s k:Nat):iH (n/2^s) k=((iH n (k+s/32)+4294967296*iH n (k+s/32+1))/2^(s%32))%4294967296:=by
 have e:2^s*4294967296^k=4294967296^(k+s/32)*2^(s%32):=by
  rw[nF,nF,<-bw,<-bw];congr 1;omega
 unfold iH;rw[cU,e,<-cU,bG,<-cU];generalize n/4294967296^(k+s/32)=N;have hr:s%32<32:=bC _ aF;generalize s%32=r at *
 have h1:N%4294967296+4294967296*(N/4294967296%4294967296)=N%(4294967296*4294967296):=(gy).symm;rw[h1];have h2:N=4294967296*(N/(4294967296*4294967296))*4294967296+N%(4294967296*4294967296):=by
  have:=cB N (4294967296*4294967296);omega
 have h3:(4294967296:Nat)=2^r*2^(32-r):=by rw[<-bw,(aD:r+(32-r)=32)]
 generalize N%(4294967296*4294967296)=u at *
 generalize N/(4294967296*4294967296)=t at *
 have h4:N/2^r=4294967296*(t*2^(32-r))+u/2^r:=by
  rw[h2];have e2:4294967296*t*4294967296=2^r*(4294967296*(t*2^(32-r))):=by
   conv=>lhs;rw[bE]
   conv=>lhs;lhs;rw[h3]
   rw[bB,dt (2^(32-r)),bE (2^(32-r)) t]
  rw[e2,dJ (bA aF)]
 rw[h4,ep]
def akN{O:List Nat}{P x n k m:Nat}(hx:x<4294967296)(hO:O=iY (P*2^n) m)(hP:P<4294967296^k)(hm:k+n/32+1<m):
 (O.getD (k+n/32) 0)<2^(n%32)/\((O.set (k+n/32) (O.getD (k+n/32) 0+x*2^(n%32)%4294967296)).set (k+n/32+1) (x*2^(n%32)/4294967296))=iY ((P+4294967296^k*x)*2^n) m:=by
 have hr:n%32<32:=bC _ aF;have hq:(2:Nat)^n=2^(n%32)*4294967296^(n/32):=by rw[nF,<-bw];congr 1;omega
 have yE:2^(n%32)<=2^31:=bI aF aD;have Eo:(2:Nat)^31=2147483648:= aF ;have qd:0<2^(n%32):=bA aF;have lg:iK O:=by rw[hO];exact tn _ _
 have hlen:O.length=m:=by rw[hO,mP]
 have hN:P*2^n<4294967296^(k+n/32)*2^(n%32):=by
  have h1:P*2^(n%32)<4294967296^k*2^(n%32):=dg hP qd;have h2:=dg h1 (pw (n/32));rw[hq,<-bB,bw,fX (4294967296^k)];exact h2
 have qb:P*2^n<4294967296^(k+n/32+1):=by
  rw[bG];exact bT hN (cM _ aD)
 have o1:O.getD (k+n/32) 0=P*2^n/4294967296^(k+n/32):=by
  rw[hO,tm aD];unfold iH;rw[bQ];rw[cr (pw _),bE 4294967296,<-bG];exact qb
 have o2:O.getD (k+n/32+1) 0=0:=by rw[hO,tm hm];exact uW qb (bp _)
 have o3:O.getD (k+n/32) 0<2^(n%32):=by
  rw[o1,cr (pw _),bE (2^(n%32))];exact hN
 refine⟨o3,?_⟩;have ux:x*2^(n%32)<4294967296*2^(n%32):=dg hx qd;have z8:O.getD (k+n/32) 0+x*2^(n%32)%4294967296<4294967296:=by
  have h3:(4294967296:Nat)=2^(n%32)*2^(32-n%32):=by rw[<-bw,(aD:n%32+(32-n%32)=32)]
  have h4:x*2^(n%32)%4294967296=2^(n%32)*(x%2^(32-n%32)):=by
   conv=>lhs;rw[bE];rhs;rw[h3]
   exact ic _ _ _
  have h5:x%2^(32-n%32)<2^(32-n%32):=bC _ (bA aF);have h6:=cM (2^(n%32)) (show x%2^(32-n%32)+1<=2^(32-n%32)from h5);rw[<-h3,bM,cg]at h6;omega
 have lW:k+n/32<O.length:= aD ;have Bz:=yh (x:=O.getD (k+n/32) 0+x*2^(n%32)%4294967296) lW;have qY:k+n/32+1<(O.set (k+n/32) (O.getD (k+n/32) 0+x*2^(n%32)%4294967296)).length:=by rw[cS];omega
 have se:=yh (x:=x*2^(n%32)/4294967296) qY;rw[vi aD,o2,cQ,bK]at se;refine(G8 ((lg.set _ z8).set _ ?_) (by rw[cS,cS,hlen]) ?_).symm
 .rw [cr aF];exact bT ux (cM _ aD)
 .have sd:val O=P*2^n:=by
   rw[hO,xl,bQ];exact bT qb (bI aF aD)
  rw[se];rw[sd,bM]at Bz;have e1:=ef (x*2^(n%32)) 4294967296;have e2:=congrArg (4294967296^(k+n/32) * ·) e1;simp only[bM]at e2;have e3:4294967296^(k+n/32)*(x*2^(n%32))=4294967296^k*x*2^n:=by
   rw[hq,bw];simp only[bB,bE,dt]
  rw[bG,bB,b8];rw[e3]at e2;omega
def mj(r b k:Nat):Nat:=(2*(r%4294967296^k)+b)/4294967296^k
def Lc(r b:Nat):mj r b 0=b:=by unfold mj;simp[dn]
def G5{r b:Nat}(hb:b<=1)(k:Nat):mj r b k<=1:=by
 unfold mj;have h1:=bC r (pw k);have:(2*(r%4294967296^k)+b)/4294967296^k<2:=by rw[cr (pw k)];omega
 omega
def G6{r b:Nat}(hb:b<=1)(k:Nat):iH (2*r+b) k=2*iH r k%4294967296+mj r b k/\mj r b (k+1)=iH r k/2147483648:=by
 have h1:(2*r+b)/4294967296^k=2*(r/4294967296^k)+mj r b k:=by
  unfold mj;have h1:=cB r (4294967296^k);have h3:=dJ (pw k) (2*(r/4294967296^k)) (2*(r%4294967296^k)+b);rw[<-h3];congr 1;rw[dt];omega
 have h2:=G5 (r:=r) hb k;have h3:mj r b (k+1)=(2*iH r k+mj r b k)/4294967296:=by
  conv=>lhs;unfold mj
  rw[mod_succ,bG,<-cU];congr 1;have h3:=dJ (pw k) (2*iH r k) (2*(r%4294967296^k)+b);unfold mj;rw[<-h3];congr 1;rw[dt];omega
 have h4:iH (2*r+b) k=(2*iH r k+mj r b k)%4294967296:=by
  conv=>lhs;unfold iH
  rw[h1];unfold iH;omega
 have h5:=pt r k;constructor
 .rw [h4];omega
 .rw [h3];omega
end Go.Proofs.YtbhhompalmdaiaaGreatDoor.Fp
namespace Go.Proofs.YtbhhompalmdaiaaGreatDoor
open Go.RowKit Fp Pu
def AL{n:Nat}{L:List Nat}(h:n=L.length):(E.sl false n 1 (jl L))=iw L:=by subst h;rfl
def DF(n:Nat)(h:n<18446744073709551616):bits .and .u64 (n:Int) 4294967295=((n%4294967296:Nat):Int):=by
 have:=PF n 4294967295 h aF;rw[show((4294967295:Int))=((4294967295:Nat):Int)from rfl,this];exact congrArg _ (anN n 32)
def Ke(n:Nat)(h:n<4294967296):bits .and .u32 (n:Int) 1=((n%2:Nat):Int):=by
 have:=bits_and_u32_nat n 1 h aF;rw[show((1:Int))=((1:Nat):Int)from rfl,this];exact congrArg _ (gX n)
def Du(n:Nat)(h:n<4294967296):IntKind.u64.wrap ((n:Int)*2^32)=((n*4294967296:Nat):Int):=by rw[IntKind.wrap_u64];omega
def FO(a b:Nat)(ha:a<4294967296)(hb:b<4294967296):bits .or .u64 ((a*4294967296:Nat):Int) (b:Int)=((a*4294967296+b:Nat):Int):=by
 rw[Kf _ _ aD aD,gq,show a*4294967296=a*2^32 by rfl,Au b a 32 (by simpa using hb),eR]
def Dp{T n n' p:Nat}{L L':List Nat}{z:Nat}(hn:n=n')(hp:p<L.length)(hs:L.set p z=L'):Bx.le (.row false T n 1 λi' j'=>if i'=p/\0<=j'/\j'<0+1 then[.v (.int .u32 (z:Int))].getD (j'-0) .any else(jl L) i' j') (.row false T n' 1 (jl L')):=hs▸O8 hn hp
def Al{T n n':Nat}{N:Nat}{z:Int}(hn:n'=n+1)(hz:z=(iH N n:Int)):
 Bx.le (.row false T (n+1) 1 λi_ j_=>if i_<n then(jl (iY N n)) i_ j_ else(E.jH (.sl false 1 1 λi_ j_=>[.v (.int .u32 z)].getD (i_*1+j_) (.v (.bool false)))) (i_-n) j_) (.row false T n' 1 (jl (iY N n'))):=by
 subst hn hz;refine .row rfl λi j hi hj=>?_
 obtain rfl:j=0:= aD ;refine⟨.jb ?_,rfl⟩;by_cases h:i<n
 .rw [bn h];show E.v (.int .u32 (((iY N n).getD i 0:Nat):Int))=E.v (.int .u32 (((iY N (n+1)).getD i 0:Nat):Int));rw[tm h,tm hi]
 .obtain rfl:i=n:= aD ;rw[bl (e9 i)];show E.jH _ (i-i) 0=E.v (.int .u32 (((iY N (i+1)).getD i 0:Nat):Int));rw[tm (amS i),di];rfl
end Go.Proofs.YtbhhompalmdaiaaGreatDoor
namespace Go.Proofs.YtbhhompalmdaiaaGreatDoor.Fp
def ja(a b n x:Nat):Nat:=a/2^(n-x)%b
def kR(a b n x:Nat):Nat:=a/2^(n-x)/b
def jr(a n x:Nat):Nat:=a/2^(n-1-x)%2
def Hd(a n x:Nat):jr a n x<=1:=by unfold jr;omega
def R8{a n x:Nat}(hx:x<n):a/2^(n-(x+1))=2*(a/2^(n-x))+jr a n x:=by
 unfold jr;rw[(aD:n-x=(n-1-x)+1),(aD:n-(x+1)=n-1-x),bG,<-cU];omega
def R6{a b n x:Nat}(hb:0<b)(hx:x<n)(h:2*ja a b n x+jr a n x<b):ja a b n (x+1)=2*ja a b n x+jr a n x/\kR a b n (x+1)=2*kR a b n x:=by
 have e:a/2^(n-(x+1))=b*(2*kR a b n x)+(2*ja a b n x+jr a n x):=by
  rw[R8 hx];have:=cB (a/2^(n-x)) b;unfold kR ja;rw[dt];omega
 constructor
 .conv=>lhs;unfold ja
  rw[e,ep,bQ h]
 .conv=>lhs;unfold kR
  rw[e,dJ hb,cA h,bK]
def R7{a b n x:Nat}(hb:0<b)(hx:x<n)(h:¬2*ja a b n x+jr a n x<b):ja a b n (x+1)=2*ja a b n x+jr a n x-b/\kR a b n (x+1)=2*kR a b n x+1:=by
 have hr:ja a b n x<b:=bC _ hb;have tu:=Hd a n x;have e:a/2^(n-(x+1))=b*(2*kR a b n x+1)+(2*ja a b n x+jr a n x-b):=by
  rw[R8 hx];have:=cB (a/2^(n-x)) b;unfold kR ja at *
  rw[bM,dt,cg];omega
 constructor
 .conv=>lhs;unfold ja
  rw[e,ep,bQ aD]
 .conv=>lhs;unfold kR
  rw[e,dJ hb,cA aD,bK]
def R9{a b n:Nat}(h:a<2^n):ja a b n 0=0/\kR a b n 0=0:=by
 unfold ja kR;rw[dR,cA h];simp
def R5(a b n:Nat):ja a b n n=a%b/\kR a b n n=a/b:=by
 unfold ja kR;rw[di,ca,dL];exact⟨rfl,rfl⟩
def acv(a b n x:Nat):kR a b n x*2^(n-x)<=a:=by
 unfold kR;exact bJ (bR _ (cE _ _)) (dH _ _)
def Q1{L:List Nat}(h:iK L):iA (val L)<=32*L.length:=kV.2 (by rw[<-nF];exact mC h)
def akG{q i m:Nat}(hi:i/32<m)(hq:q*2^(i+1)<4294967296^m):
 (∃ t,iH (q*2^(i+1)) (i/32)=t*2^(i%32+1))/\iH (q*2^(i+1)) (i/32)+2^(i%32)<4294967296 /\
 (iY (q*2^(i+1)) m).set (i/32) (iH (q*2^(i+1)) (i/32)+2^(i%32))=iY ((2*q+1)*2^i) m:=by
 have hr:i%32<32:=bC _ aF;have e1:q*2^(i+1)/4294967296^(i/32)=q*2^(i%32+1):=by
  rw[(aD:i+1=(i%32+1)+32*(i/32)),bw,<-nF,<-bB,eg _ (pw _)]
 have h3:(4294967296:Nat)=2^(i%32+1)*2^(32-(i%32+1)):=by rw[<-bw,(aD:i%32+1+(32-(i%32+1))=32)]
 have e2:iH (q*2^(i+1)) (i/32)=(q%2^(32-(i%32+1)))*2^(i%32+1):=by
  unfold iH;rw[e1,bE]
  conv=>lhs;rhs;rw[h3]
  rw[ic,bE]
 have e3:(q%2^(32-(i%32+1)))*2^(i%32+1)+2^(i%32+1)<=4294967296:=by
  have:=bR (2^(i%32+1)) (show q%2^(32-(i%32+1))+1<=2^(32-(i%32+1))from bC _ (bA aF));rw[b8,ck]at this;refine bJ this (ib ?_);rw[bE];exact h3.symm
 have e4:2^(i%32)<2^(i%32+1):=fk aF aD;have iO:iH (q*2^(i+1)) (i/32)+2^(i%32)<4294967296:=by rw[e2];omega
 refine⟨⟨_,e2⟩,iO,?_⟩;have hk:i/32<(iY (q*2^(i+1)) m).length:=by rw[mP];exact hi
 have hv:=yh (x:=iH (q*2^(i+1)) (i/32)+2^(i%32)) hk;rw[tm hi,xl,bQ hq,bM]at hv;refine(G8 ((tn _ _).set _ iO) (by rw[cS,mP]) ?_).symm;have e5:4294967296^(i/32)*2^(i%32)=2^i:=by rw[nF,<-bw];congr 1;omega
 rw[e5]at hv;have e6:2*q*2^i=q*2^(i+1):=by rw[bG,bE 2 q,bB,bE 2]
 rw[b8,ck,e6];omega
end Go.Proofs.YtbhhompalmdaiaaGreatDoor.Fp
namespace Go.Proofs.YtbhhompalmdaiaaGreatDoor
open Go.RowKit Fp Pu
def ah6(s t:Nat)(hs:s<32)(iO:t*2^(s+1)+2^s<4294967296):bits .or .u32 ((t*2^(s+1):Nat):Int) (IntKind.u32.wrap (1*2^s))=((t*2^(s+1)+2^s:Nat):Int):=by
 have h2:2^s<2^(s+1):=fk aF aD;have e:IntKind.u32.wrap (1*2^s)=((2^s:Nat):Int):=by
  rw[IntKind.wrap_u32,Int.one_mul,show(2:Int)^s=((2^s:Nat):Int)by simp];omega
 rw[e,Gg _ _ aD aD,gq,Au _ t (s+1) h2,eR]
def ah7(o r a:Nat)(hr:r<32)(ho:o<2^r):bits .or .u32 (o:Int) ((a*2^r%4294967296%4294967296:Nat):Int)=((o+a*2^r%4294967296:Nat):Int):=by
 have h3:(4294967296:Nat)=2^r*2^(32-r):=by rw[<-bw,(aD:r+(32-r)=32)]
 have yE:2^r<=2^31:=bI aF aD;have Eo:(2:Nat)^31=2147483648:= aF ;have e2:a*2^r%4294967296=(a%2^(32-r))*2^r:=by
  rw[bE]
  conv=>lhs;rhs;rw[h3]
  rw[ic,bE]
 rw[Nat.mod_mod,Gg _ _ aD (bC _ aF),e2,Au _ _ _ ho]
def akM(a r:Nat)(ha:a<4294967296)(hr:r<32):IntKind.u64.wrap ((a:Int)*2^r)=((a*2^r:Nat):Int):=by
 have yE:2^r<=2^31:=bI aF aD;have Eo:(2:Nat)^31=2147483648:= aF ;have h2:a*2^r<=4294967295*2147483648:=dA aD aD;have e:(a:Int)*2^r=((a*2^r:Nat):Int):= aJ ;rw[e];exact oj _ aD 
def akL{a r:Nat}(ha:a<4294967296)(hr:r<32):a*2^r<=9223372034707292160:=by
 have yE:2^r<=2^31:=bI aF aD;have Eo:(2:Nat)^31=2147483648:= aF ;have h2:a*2^r<=4294967295*2147483648:=dA aD aD;omega
def Ph(x:Nat):IntKind.u32.wrap ((x:Int)*2^1)=((2*x%4294967296:Nat):Int):=by rw[IntKind.wrap_u32];omega
def Ju(x c:Nat)(hc:c<=1):bits .or .u32 ((2*x%4294967296:Nat):Int) (c:Int)=((2*x%4294967296+c:Nat):Int):=by
 have h:2*x%4294967296=(2*x%4294967296/2)*2^1:= aD ;rw[Gg _ _ aD aD,gq,h,Au _ _ 1 aD,eR]
def ake{T n n' p q:Nat}{L L':List Nat}{z y:Nat}(hn:n=n')(hp:p<L.length)(hq:q<L.length)(hs:(L.set p z).set q y=L'):
 Bx.le (.row false T n 1 λi' j'=>if i'=q/\0<=j'/\j'<0+1 then[.v (.int .u32 (y:Int))].getD (j'-0) .any else(λi' j'=>if i'=p/\0<=j'/\j'<0+1 then[.v (.int .u32 (z:Int))].getD (j'-0) .any else(jl L) i' j') i' j') (.row false T n' 1 (jl L')):=by
 subst hs;refine .row hn λi j _ hj=>?_
 obtain rfl:j=0:= aD ;refine⟨.jb ?_,rfl⟩;by_cases h1:i=q
 .subst h1;rw[bn ⟨rfl,aD,aD⟩];show E.v (.int .u32 (y:Int))=E.v (.int .u32 ((((L.set p z).set i y).getD i 0:Nat):Int));rw[Fp.LN (by rw[cS];exact hq)]
 .rw [bl (λk=>h1 k.1)];by_cases h:i=p
  .subst h;show(if i=i/\0<=0/\0<0+1 then _ else _)=E.v (.int .u32 ((((L.set i z).set q y).getD i 0:Nat):Int));rw[bn ⟨rfl,aD,aD⟩,Fp.vi (λk=>h1 k.symm),Fp.LN hp];rfl
  .show (if i=p/\0<=0/\0<0+1 then _ else E.v (.int .u32 (L.getD i 0:Int)))=E.v (.int .u32 ((((L.set p z).set q y).getD i 0:Nat):Int));rw[bl (λk=>h k.1),Fp.vi (λk=>h1 k.symm),Fp.vi (λk=>h k.symm)]
end Go.Proofs.YtbhhompalmdaiaaGreatDoor
namespace Go.Proofs.YtbhhompalmdaiaaGreatDoor.Fp
section
variable {a b:Dy} {k:Int}
def Wl(ha:a.lh)(hb:b.lh):(je a b).lh:=by unfold je;split;exact hb;exact ha
def GC(ha:a.lh):(lR a).lh:=by
 rcases ha with⟨h1,_,h3⟩|h1
 .exact .inl ⟨h1,rfl,h3⟩
 .exact .inr h1
end
end Go.Proofs.YtbhhompalmdaiaaGreatDoor.Fp
